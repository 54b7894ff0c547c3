/- Lemmas. -/
import Derived.Test.YtcmgfjaiegpddaaGreatA11
import Derived.Test.YtcmgfjaiegpddaaGreatProg
import Derived.Laws.StructEq
import Derived.WideShapes
set_option linter.all false
set_option maxRecDepth 100000
set_option maxHeartbeats 4000000
noncomputable section
namespace Go.Proofs.Led
open Go Go.Proofs Go.Ab Tryz
def QK:=@underlying3
def QX:=@underlying4
def T:Tab:=eD6 Tryz.prog 362 [0,50,52,68,70,73,77,110,112,136,174,177,182,185,216,265,310,345] (λ_ _=>True) (λ_ h=>h) [92,95,98,100,137,138,176,211]
def uG:bP T Tryz.prog:=dM2 Ac
def mixed:Tryz.prog.follows .mixedOrders=true:=Ac
abbrev Sp(f:FuncId)(ys:List V)(r:V):Prop:=Go.Ab.Spec T Tryz.prog f ys r
def dR{f:FuncId}{a:Func}{ys:List V}{r:V}(c:Tryz.prog.funcs[f]? =some a)(b:callable Tryz.prog f=true)(d:Nat.ble ys.length a.ntmps=true)(h:fnVC T Tryz.prog a ys r):Sp f ys r:=
 eH1 uG mixed c b (QA d) h
abbrev SpIO(f:FuncId)(ys:List V)(r:V)(e:TypeId)(l:List V):Prop:=bE5 T Tryz.prog f ys r 0 e l
def eH7{f:FuncId}{a:Func}{y:V}{ys:List V}{r:V}{e:TypeId}{l b:List V}(i:y= .own e l)(d:Tryz.prog.funcs[f]? =some a)(c:callable Tryz.prog f=true)(g:Nat.ble (y::ys).length a.ntmps=true)(h:fnIO T Tryz.prog a (y::ys) r 0 e b):SpIO f (y::ys) r e b:=
 cE4 uG mixed d c (QA g) Ai (by rw[i];rfl) h
abbrev SpB(f:FuncId)(ys:List V)(bs:List (List V))(r:V)(bs':List (List V)):Prop:=aU2 T Tryz.prog f ys bs r bs'
def b_of{f:FuncId}{c:Func}{ys:List V}{bs:List (List V)}{r:V}{a:List (List V)}(j:Tryz.prog.funcs[f]? =some c)(i:callable Tryz.prog f=true)(g:(Nat.ble ys.length c.ntmps&&Nat.blt c.ntmps 100000)=true)(d:(Nat.ble bs.length 8&&bs.all λb=>Nat.blt b.length 100000)=true)(k:a.map List.length=bs.map List.length)(h:jR T Tryz.prog c ys bs r a):SpB f ys bs r a:=by
 rw[Px]at g d;exact dP3 uG mixed j i (QA g.1) (blt g.2) (QA d.1) (λb e=>blt (QR.1 d.2 b e)) k h
def rb_of{w:World}{G:Gh}{j:Nat}{v:Value}{y:V}(h:RbB T w G 0 j v y):Rb T w G j v y:=by
 unfold RbB at h;grind [Rb]
theorem dU1{w:World}{G:Gh}{j:Nat}{v:Value}{y:V}(h:Rb T w G j v y):RbB T w G 0 j v y:=by
 unfold Rb at h;grind [RbB]
def gJ7(r:V):Bool:=match r with| .tup (.bot::_)=>false|_=>true
def xX{f:FuncId}{ys:List V}{r:V}(h:Sp f ys r)(x:gJ7 r=true:=by rfl):aU2 T Tryz.prog f ys [] r [] :=by
 refine⟨h.1,rfl,λw G cs p s D E t u=>(h.2 w G cs p s ?_ ?_ u).mono ?_⟩;grind;intro j v y z A;exact rb_of (t j v y z A);rintro e w' ⟨v,G',rfl,c,d,g,B,C,k,l,m,n,o⟩;refine⟨v,G',rfl,?_,(λi b a=>by simp at a),(λi hi=>absurd hi (Nat.not_lt_zero _)),d,g,(λb a=>?_),(λb a q _=>k b a q),l,m,n,o⟩;unfold Rr at c;unfold RrB;split at c;exact Bool.noConfusion (show false=true from x);grind [dU1];grind [dU1];simp_all
def I(n:Int):V:= .lit (.int .i64 n)
def U(n:Int):V:= .lit (.int .u8 n)
def S(s:ByteArray):V:= .lit (.string s)
abbrev aI:ByteArray:={data:= #[]}
abbrev nilV:V:= .lit (.slice none 0 0)
abbrev W(n:Int):Int:=IntKind.i64.wrap n
theorem nT(n:Int): -9223372036854775808<=W n/\W n<=9223372036854775807:=by
 grind [IntKind.wrap,IntKind.signed,IntKind.bits]
theorem w_in{n:Int}(h: -9223372036854775808<=n/\n<=9223372036854775807):W n=n:=IntWalk.i64_in _ Aa
@[irreducible] def decB(p:Prop):Bool:= @decide p (Classical.propDecidable p)
abbrev DB(p:Prop):V:= .lit (.bool (decB p))
theorem dH{p:Prop}:decB p=true↔p:=by unfold decB;simp
theorem dW{p:Prop}:decB p=false↔¬p:=by unfold decB;simp
def eZ0{p A B:Prop}(a:p->A)(b:¬p->B):branch (decB p) A B:=jU (λh=>a (dH.1 h)) (λh=>b (dW.1 h))
def fE{p:Prop}(h:p):true=decB p:=(dH.2 h).symm
def aC{p:Prop}(h:¬p):false=decB p:=(dW.2 h).symm
def aS1{a b:Int}{p:Prop}(h:a<b↔p):ltB a b=decB p:=Qv.2 (by rw[dC8,dH];exact h)
def le_dec{a b:Int}{p:Prop}(h:a<=b↔p):leB a b=decB p:=Qv.2 (by rw[bV6,dH];exact h)
def sK{a b:Int}{p:Prop}(h:a=b↔p):eqB a b=decB p:=Qv.2 (by rw[aA1,dH];exact h)
def aF6{b:Bool}{p:Prop}(h:b=false↔p):(!b)=decB p:=Qv.2 (by rw[dH,<-h];cases b<;>simp)
def fQ{p q:Prop}(h:p↔q):decB p=decB q:=Qv.2 (by rw[dH,dH];exact h)
def eqB_d{a b:Int}:eqB a b=decB (a=b):=sK Qn
def eU2{a b:Int}:ltB a b=decB (a<b):=aS1 Qn
theorem eG4{a b:ByteArray}:eqS a b=true↔a=b:=by
 unfold eqS;rw[beq_iff_eq,ByteArray.toList_eq,ByteArray.toList_eq];exact⟨WideShapes.bytes_inj,λh=>by rw[h]⟩
def eqS_f{a b:ByteArray}:eqS a b=false↔a≠b:=by rw[<-QS,eG4]
theorem eK9{a b:ByteArray}:eqSB a b=true↔a=b:=by
 unfold eqSB;constructor;intro h;obtain⟨x⟩:=a;obtain⟨y⟩:=b;have h1:(x==y)=true:=h;have c:x=y:=FC;rw[c];rintro rfl;show(a.data==a.data)=true;simp
def jI{a b:ByteArray}{A B:Prop}(c:a=b->A)(d:a≠b->B):branch (eqS a b) A B:=jU (λh=>c (eG4.1 h)) (λh=>d (eqS_f.1 h))
def qV{a b:ByteArray}{p:Prop}(h:a=b↔p):eqS a b=decB p:=Qv.2 (by rw[eG4,dH];exact h)
theorem dE9{a b:Bool}:andB a b=true↔a=true/\b=true:=by rw[eQ7,Px]
def aA{ar:Nat->Option AE}{b:Bool}{p:Prop}(h:b=decB p):iQ T ar [.lit (.bool (decB p))] [.lit (.bool b)]/\iR [.lit (.bool b)] [.lit (.bool (decB p))] =true/\(∀a,(V.lit (.bool (decB p)))≠ .tup a):=aK h
def bW7{n:Int}{K:Int->Prop}(a:K (W n)):arith .i64 n K:=⟨a⟩
def fK{k:IntKind}{n m:Int}{K:Int->Prop}(h:k.wrap n=m)(a:K m):arith k n K:=⟨by rw[h];exact a⟩
def aU{T:Tab}{σ:St}{x:aA2}{Q:Exit->St->Prop}{A B:Type}(st:A->B->St)(inv:A->B->Prop)(m:A->B->Nat)(d:A)(f:B)(g:Le T σ (st d f))(i:inv d f)(h:∀a b,inv a b->x (st a b) λe c=>match e with
 | .normal=>∃p':A×B,Le T c (st p'.1 p'.2)/\inv p'.1 p'.2/\m p'.1 p'.2<m a b
 |e=>Q e c):bI0 T x σ Q:=
 lD (A:=A×B) (λp=>st p.1 p.2) (λp=>inv p.1 p.2) (λp=>m p.1 p.2) (d,f) g i (λp j=>h p.1 p.2 j)
def oU{T:Tab}{σ:St}{x:aA2}{Q:Exit->St->Prop}{A B C:Type}(st:A->B->C->St)(inv:A->B->C->Prop)(m:A->B->C->Nat)(f:A)(g:B)(i:C)(j:Le T σ (st f g i))(k:inv f g i)(h:∀a b c,inv a b c->x (st a b c) λe d=>match e with
 | .normal=>∃p':A×B×C,Le T d (st p'.1 p'.2.1 p'.2.2)/\inv p'.1 p'.2.1 p'.2.2/\m p'.1 p'.2.1 p'.2.2<m a b c
 |e=>Q e d):bI0 T x σ Q:=
 lD (A:=A×B×C) (λp=>st p.1 p.2.1 p.2.2) (λp=>inv p.1 p.2.1 p.2.2) (λp=>m p.1 p.2.1 p.2.2) (f,g,i) j k (λp l=>h p.1 p.2.1 p.2.2 l)
def aF{a:Type}{f:a->V}{l A B:List a}{x:a}{i:Nat}{K:V->Prop}(h:l=A++x::B)(hi:i=A.length)(b:K (f x)):idx (l.map f) i K:=by
 subst h hi;exact dE3 _ Af b
def gK{a:Type}{f:a->V}{l:List a}{i j:Nat}{x:a}{K:V->Prop}(h:l[j]? =some x)(hi:i=j)(b:K (f x)):idx (l.map f) i K:=by
 subst hi;exact dE3 _ (by rw[PK,h];rfl) b
def aB{a:Type}{f:a->V}{l:List a}{z:Int}{K:Prop}(h:0<=z/\z<l.length)(b:K):need (0<=z/\z< (l.map f).length) K:=fU ⟨h.1,by rw[P6];exact h.2⟩ b
def cK2{s:ByteArray}{z:Int}{K:Prop}(h:0<=z/\z<s.size)(a:K):need (0<=z/\z< (s.size:Int)) K:=fU h a
def dJ7{s:ByteArray}:s.size=0↔s={data:= #[]}:=by
 obtain⟨a⟩:=s;constructor;intro h;have:a= #[] :=Array.eq_empty_of_size_eq_zero h;rw[this];intro h;rw[h];rfl
theorem eT0{a:Type}{f:a->V}{l:List a}:(l.map f).length=l.length:=Af
def aO{a:Type}{l A B:List a}{x:a}(h:l=A++x::B):l.length=A.length+B.length+1:=by rw[h];simp;omega
def mX{b:Type}{f:b->V}{l:List b}{en:AE}{g e a size:Nat}{x:V}{K:Prop}(c:en.l=l.map f)(d:en.gen=g)(h:en.kind= .own\/en.kind= .ap)(i:en.ty=e)(j:a<=10000)(m:x.cells.length=size)(n:l.length<=100000000)(k:K):
 need (en.gen=g/\(en.kind= .own\/en.kind= .ap)/\en.ty=e/\(en.l.length+[x].length)*a<=140737488355328/\en.l.length+[x].length<=140737488355328/\∀y∈[x],y.cells.length=size) K:=
 iH d h i j (dA m) (by rw[c,P6,PL];omega) k
def fst{α:Type}(Q:α->Prop)(l:List α):Nat:=(l.takeWhile λm=> !decB (Q m)).length
def fstI{α:Type}(Q:α->Prop)(l:List α):Int:=if fst Q l<l.length then fst Q l else-1
def wH{a:Type}{p:a->Bool}{D R:List a}{x:a}(h:∀y∈D,p y=true)(b:p x=false):((D++x::R).takeWhile p).length=D.length:=by
 simp_all
theorem fC3{a:Type}{p:a->Bool}{D:List a}(h:∀y∈D,p y=true):(D.takeWhile p).length=D.length:=by
 induction D<;>simp_all
def iO{a:Type}{Q:a->Prop}{l:List a}:¬fst Q l<l.length↔∀m∈l,¬Q m:=by
 unfold fst;constructor;intro h m b c;apply h;clear h;induction l<;>grind [List.takeWhile_cons,dH,PE]
 grind [fC3,dW]
abbrev zg:= @eY7
abbrev zw:= @bW7
abbrev zn:= @eZ2
abbrev zd:= @eZ0
abbrev zl:= @br_lt
abbrev zk:= @br_le
abbrev ze:= @eV7
abbrev zb:= @jU
abbrev zr:= @ret_i
abbrev zq:= @fA7
class Bc (b:Bool) (p q:outParam Prop):Prop where
 t:b=true->p
 f:b=false->q
instance{p:Prop}:Bc (decB p) p (¬p):=⟨dH.1,dW.1⟩
instance{a b:Int}:Bc (ltB a b) (a<b) (b<=a):=⟨dC8.1,eU6.1⟩
instance{a b:Int}:Bc (leB a b) (a<=b) (b<a):=⟨bV6.1,eU7.1⟩
instance{a b:Int}:Bc (eqB a b) (a=b) (a≠b):=⟨aA1.1,dY0.1⟩
def zz{b:Bool}{p q A B:Prop}[Bc b p q](a:p->A)(c:q->B):branch b A B:=jU (λh=>a (Bc.t h)) (λh=>c (Bc.f h))
section
variable{T:Tab}{P:Program}{σ:St}
def zi{env:Nat->V}{ops:List Oper}{K:List (Nat×List Nat)->Prop}{A:Prop}(a:K [])(h:cP6 T ops=true:=by kernel_rfl):aC9 T env ops K A:=eZ1 h a
def za{n:Int}{K:Int->Prop}(a:K n)(h: -9223372036854775808<=n/\n<=9223372036854775807:=by omega):arith .i64 n K:=eH4 h a
def zo{p K:Prop}(a:K)(h:p:=by first|omega|exact rfl):need p K:=fU h a
def zm{a:Type}{f:a->V}{l:List a}{i:Nat}{K:V->Prop}(h:∀x,l[i]? =some x->K (f x))(hi:i<l.length:=by omega):idx (l.map f) i K:=eQ9 hi h
def zv{en:AE}{g:Nat}{K:Prop}(c:K)(a:en.gen=g:=by exact rfl)(b:en.kind≠ .dead:=by exact λh=>Ag):need (en.gen=g/\en.kind≠ .dead) K:=eY0 a b c
def zj{e:List (Nat×V)}{a:List (Nat×List V)}{b:List (Nat×AE)}(c:wk8 σ.ar (ofO b)/\wk8b σ.bx (ofO a):=by(repeat' (first|exact trivial|refine And.intro ?_ ?_|with_reducible rfl|exact(λh=>Ag)|exact Po _|omega|exact rfl))<;>fail)(d:wkA T σ b:=by(repeat' (first|exact trivial|refine And.intro ?_ ?_|with_reducible rfl|exact(λh=>Ag)|exact Po _|omega|exact rfl))<;>fail)(f:wkB σ (ofO a) (ofO b) a:=by(repeat' (first|exact trivial|refine And.intro ?_ ?_|with_reducible rfl|exact(λh=>Ag)|exact Po _|omega|exact rfl))<;>fail)(g:wkE σ (ofO a) (ofO b) e:=by(repeat' (first|exact trivial|refine And.intro ?_ ?_|with_reducible rfl|exact(λh=>Ag)|exact Po _|omega|exact rfl))<;>fail):Le T σ (mkSt e a b):=dV c d f g
def zc{a:Md}{d:Nat}{f:FuncId}{xs ys:List V}{r:V}{K:VK}(g:Go.Ab.Spec T P f ys r)
 (e:zZ σ d (reuse σ (bD ys xs)) r λv i=>K v (appR (cond false [] (aV σ (bK ys xs))) (appR (aX σ (bD ys xs)) i)))
 (c:iQ T σ.ar ys xs:=by(repeat' (first|exact trivial|refine And.intro ?_ ?_|with_reducible rfl|exact(λh=>Ag)|exact rfl))<;>fail)
 (b:sO a.light false xs ys r=true:=by exact rfl):kY T P a σ d f xs K:=aS5 g false c b e
def zh{a:Md}{d:Nat}{f:FuncId}{xs ys:List V}{bs b:List (List V)}{r:V}{K:VK}(j:Go.Ab.aU2 T P f ys bs r b)(is:List Nat)
 (g:aX2 σ.bx σ.ar is (ownG ((xs,ys)::eU σ.bx bs is)) d r b λv k=>K v (appR (aV σ (mF ((xs,ys)::eU σ.bx bs is))) (appR (aX σ (ownG ((xs,ys)::eU σ.bx bs is))) k)))
 (i:a.may d is ((xs,ys)::eU σ.bx bs is)=true:=by exact rfl)(e:xM T σ.ar is ((xs,ys)::eU σ.bx bs is):=by(repeat' (first|exact trivial|refine And.intro ?_ ?_|with_reducible rfl|exact(λh=>Ag)|exact rfl))<;>fail)(c:zA σ.bx ((xs,ys)::eU σ.bx bs is) is bs r=true:=by exact rfl):kY T P a σ d f xs K:=fC9 j is i e c g
def zt{ar:Nat->Option AE}{r x:V}(b:iQ T ar [r] [x] :=by(repeat' (first|exact trivial|refine And.intro ?_ ?_|with_reducible rfl|exact(λh=>Ag)|exact rfl))<;>fail)(c:iR [x] [r] =true:=by exact rfl)(d:∀a,r≠ .tup a:=by exact λa h=>V.noConfusion h):iQ T ar [r] [x]/\iR [x] [r] =true/\(∀a,r≠ .tup a):=⟨b,c,d⟩
def zu{ar:Nat->Option AE}{xs ys:List V}(h:iQ T ar ys xs/\iR xs ys=true:=by(repeat' (first|exact trivial|refine And.intro ?_ ?_|with_reducible rfl|exact(λh=>Ag)|exact rfl))<;>fail):∃a,V.tup ys= .tup a/\iQ T ar a xs/\iR xs a=true:=⟨ys,rfl,h⟩
end
def zy{t:TypeId}{K:Prop}(a:K)(h:(T.row t).eq=true:=by kernel_rfl):need ((T.row t).eq=true) K:=fU h a
def zc1{A:Prop}(h:A:=by(repeat' (first|exact trivial|refine And.intro ?_ ?_|with_reducible rfl|exact(λ_ h=>Ag)|exact rfl))<;>fail):A:=h
def zsp{f:FuncId}{a:Func}{ys:List V}{r:V}(c:Tryz.prog.funcs[f]? =some a)(h:fnVC T Tryz.prog a ys r)(b:callable Tryz.prog f=true:=by kernel_rfl)(d:Nat.ble ys.length a.ntmps=true:=by kernel_rfl):Sp f ys r:=dR c b d h
def zS{p q:Prop}(a:q)(h:q->p:=by
 intro a
 first|exact zg a|exact zi a|exact za a|exact zw a|exact zy a|exact zo a|exact zn a|exact zv a|exact aB Aa a|exact aF Ah Aa a|exact gK Ah Aa a|exact zc Ah a|exact zr a|exact zq a):p:=h a
def zU{p q:Prop}(a:q)(h:q->p:=by
 intro a
 first|exact zi a|exact za a|exact zw a|exact zy a|exact zo a|exact zn a|exact zv a|exact aB Aa a|exact aF Ah Aa a|exact gK Ah Aa a|exact zc Ah a|exact zr a|exact zq a):p:=h a
def zT{p q r:Prop}(a:q)(b:r)(h:q->r->p:=by
 intro a b
 first|exact zz a b|exact zb a b):p:=h a b
def zE{p:Prop}(h:p:=by
 (conv=>whnf)
 first|exact aG rfl|exact aK rfl|exact aP rfl|exact zt|exact zu):p:=h
def zF{p:Prop}(h:p:=by
 repeat' ((conv=>whnf);first|omega|(exfalso;contradiction)|refine zS ?_|refine zT ?_ ?_<;>intro _|fail)
 all_goals exact zE):p:=h
def bytesN:Nat->Int->List Int
 |0,_=> []
 |k+1,n=>bytesN k (n/256)++[n% 256]
def valU(a:Int)(l:List Int):Int:=l.foldl (λn c=>n*256+c) a
def valB:List Int->Int
 | [] =>0
 |c::l=>valU (if 128<=c then c-256 else c) l
def lim:Nat->Int
 |0=>0
 |1=>128
 |k+2=>256*lim (k+1)
def fits(k:Nat)(n:Int):Prop:=if k=0 then n=0 else-lim k<=n/\n<lim k
def isB(c:Int):Prop:=0<=c/\c<256
theorem bytesN_len:∀(k:Nat) (n:Int),(bytesN k n).length=k
 |0,_=>rfl
 |k+1,n=>by unfold bytesN;rw[OY,bytesN_len k];rfl
def bytesN_isB:∀(k:Nat) (n:Int),∀c∈bytesN k n,isB c
 |0,_,c,h=>Ag
 |k+1,n,c,h=>by
  unfold bytesN at h;rcases Pv.1 h with h|h;exact bytesN_isB k _ c h;rw[Py.1 h];unfold isB;omega
def valU_snoc(a:Int)(l:List Int)(c:Int):valU a (l++[c])=valU a l*256+c:=by unfold valU;simp
def valB_snoc{l:List Int}(h:l≠ [])(c:Int):valB (l++[c])=valB l*256+c:=by
 cases l with
 |nil=>exact absurd rfl h
 |cons x l=>exact valU_snoc _ l c
def val_bytes:∀(k:Nat) (n:Int),fits k n->valB (bytesN k n)=n
 |0,n,h=>by unfold fits at h;rw[Pm rfl]at h;rw[h];rfl
 |1,n,h=>by
  unfold fits at h;rw[Ph Aa]at h;have b:lim 1=128:=rfl;show valB [n% 256] =n;show valU (if 128<=n% 256 then n% 256-256 else n% 256) [] =n;show(if 128<=n% 256 then n% 256-256 else n% 256)=n;split<;>omega
 |k+2,n,h=>by
  unfold fits at h;rw[Ph Aa]at h;have b:lim (k+2)=256*lim (k+1):=rfl;rw[b]at h;have c:=val_bytes (k+1) (n/256) (by unfold fits;rw[Ph (by omega)];omega);have a:bytesN (k+1) (n/256)≠ [] :=λe=>by have:=bytesN_len (k+1) (n/256);rw[e]at this;cases this
  rw[show bytesN (k+2) n=bytesN (k+1) (n/256)++[n% 256]from rfl,valB_snoc a,c];omega
def val_fits:∀(k:Nat) (l:List Int),l.length=k->(∀c∈l,isB c)->fits k (valB l)/\bytesN k (valB l)=l:=by
 intro k;induction k with
 |zero=>intro l h _;rw[PZ h];exact⟨rfl,rfl⟩
 |succ k o=>
  intro l h d;obtain⟨m,c,rfl⟩:∃m c,l=m++[c] :=⟨l.dropLast,l.getLast (by rintro rfl;cases h),(List.dropLast_concat_getLast _).symm⟩;have n:isB c:=d c Af;unfold isB at n;rw[OY,PL]at h;cases k with
  |zero=>
   have:m=[] :=PZ Aa;subst this;have e:valB ([] ++[c])=if 128<=c then c-256 else c:=rfl
   have f:lim 1=128:=rfl;rw[e];refine⟨?_,?_⟩;unfold fits;rw[Ph Aa,show lim (0+1)=128 from rfl];split<;>omega;show [(if 128<=c then c-256 else c)% 256] =[c];congr 1;split<;>omega
  |succ k=>
   obtain⟨b,j⟩:=o m Aa (λx hx=>d x BO);have a:m≠ [] :=by rintro rfl;simp at h
   rw[valB_snoc a];unfold fits at b⊢;rw[Ph Aa]at b;rw[Ph Aa];have f:lim (k+1+1)=256*lim (k+1):=rfl;rw[f];refine⟨Aa,?_⟩;have g:(valB m*256+c)/256=valB m:=Aa;have i:(valB m*256+c)% 256=c:=Aa;show bytesN (k+1) ((valB m*256+c)/256)++[(valB m*256+c)% 256] =_;rw[g,i,j]
def widN(n:Int):Nat:=if n=0 then 0 else if-128<=n/\n<128 then 1 else if-32768<=n/\n<32768 then 2 else if-8388608<=n/\n<8388608 then 3 else if-2147483648<=n/\n<2147483648 then 4
 else if-549755813888<=n/\n<549755813888 then 5 else if-140737488355328<=n/\n<140737488355328 then 6 else if-36028797018963968<=n/\n<36028797018963968 then 7 else 8
def lims:lim 1=128/\lim 2=32768/\lim 3=8388608/\lim 4=2147483648/\lim 5=549755813888/\lim 6=140737488355328/\lim 7=36028797018963968/\lim 8=9223372036854775808:=⟨rfl,rfl,rfl,rfl,rfl,rfl,rfl,rfl⟩
def wid_le(n:Int):widN n<=8:=by
 unfold widN;repeat' split
 all_goals omega
def wid_fits{n:Int}(h: -9223372036854775808<=n/\n<=9223372036854775807):fits (widN n) n:=by
 obtain⟨a,b,c,d,e,f,g,i⟩:=lims;unfold widN;repeat' split
 all_goals (unfold fits)
 rw[Pm rfl];assumption;all_goals (rw[Ph Aa];first|rw[a] |rw[b] |rw[c] |rw[d] |rw[e] |rw[f] |rw[g] |rw[i])
 all_goals omega
def encI(n:Int):List Int:=(widN n:Int)::bytesN (widN n) n
def decI(l:List Int):Option (Int×List Int):=match l with
 | [] =>none
 |s::r=>if s<=8/\s.toNat<=r.length/\widN (valB (r.take s.toNat))=s.toNat then some (valB (r.take s.toNat),r.drop s.toNat)else none
def enc_isB(n:Int):∀c∈encI n,isB c:=by
 intro c a;rcases P5.1 a with rfl|a;have:=wid_le n;unfold isB;omega;exact bytesN_isB _ _ c a
theorem enc_len(n:Int):(encI n).length=widN n+1:=by unfold encI;rw[PE,bytesN_len]
def dec_enc{n:Int}(h: -9223372036854775808<=n/\n<=9223372036854775807)(r:List Int):decI (encI n++r)=some (n,r):=by
 have d:=wid_le n;have c:=bytesN_len (widN n) n;have a:(bytesN (widN n) n++r).take (widN n)=bytesN (widN n) n:=by rw[List.take_append_of_le_length (by omega),Q8 (by omega)]
 have b:(bytesN (widN n) n++r).drop (widN n)=r:=by rw[List.drop_append_of_le_length (by omega),List.drop_of_length_le (by omega),Rh]
 have hv:=val_bytes _ _ (wid_fits h);unfold decI encI;simp only[RN,Qc];rw[a,b,hv,Pm ⟨Aa,AA,rfl⟩]
def enc_dec{l r:List Int}{n:Int}(d:∀c∈l,isB c)(h:decI l=some (n,r)):l=encI n++r/\-9223372036854775808<=n/\n<=9223372036854775807:=by
 unfold decI at h;cases l with
 |nil=>cases h
 |cons s m=>
  simp only at h;by_cases c:s<=8/\s.toNat<=m.length/\widN (valB (m.take s.toNat))=s.toNat
  ·rw[Pm c]at h
   obtain⟨z,A,f⟩:=c;simp only[Ql,QY]at h;obtain⟨rfl,rfl⟩:=h;have e:isB s:=d s Af;unfold isB at e;obtain⟨a,g⟩:=val_fits s.toNat (m.take s.toNat) Bd (λx y=>d x (Qw _ (PO y)));refine⟨?_,?_⟩;unfold encI;rw[f,g,RN,Qq,Int.toNat_of_nonneg e.1];obtain⟨i,j,k,o,q,t,u,w⟩:=lims;have b:s.toNat=0\/s.toNat=1\/s.toNat=2\/s.toNat=3\/s.toNat=4\/s.toNat=5\/s.toNat=6\/s.toNat=7\/s.toNat=8:=Aa;generalize valB (m.take s.toNat)=v at*;unfold fits at a;rcases b with b|b|b|b|b|b|b|b|b<;>rw[b]at a;rw[Pm rfl]at a;omega;all_goals (rw[Ph Aa]at a;first|rw[i]at a|rw[j]at a|rw[k]at a|rw[o]at a|rw[q]at a|rw[t]at a|rw[u]at a|rw[w]at a)
   all_goals omega
  rw[Ph c]at h;cases h
section
variable{α:Type}(c:α->α->Int)
def insR(x:α):List α->List α
 | [] => [x]
 |y::r=>if c x y<0 then y::insR x r else x::y::r
def isR(xs:List α):List α:=xs.foldl (λR x=>insR c x R) []
def qA(xs:List α):List α:=(isR c xs).reverse
variable{c}
theorem cE5(x:α):∀R,(insR c x R).length=R.length+1
 | [] =>rfl
 |y::r=>by
  unfold insR;split;simp[cE5 x r];simp
theorem eB2(xs:List α)(x:α):isR c (xs++[x])=insR c x (isR c xs):=by simp[isR]
theorem dG7:∀(xs R:List α),(xs.foldl (λR x=>insR c x R) R).length=R.length+xs.length
 | [],R=>rfl
 |x::xs,R=>by rw[QO,dG7 xs,cE5];simp;omega
theorem dH2(xs:List α):(isR c xs).length=xs.length:=by unfold isR;rw[dG7];simp
theorem cG2{x:α}:∀ {R:List α} {z:α},z∈insR c x R↔z=x\/z∈R
 | [],z=>by simp[insR]
 |y::r,z=>by
  unfold insR;split;rw[P5,cG2 (R:=r),P5];constructor<;>(rintro(h|h|h)<;>simp[h]);simp
theorem dH5:∀ {xs R:List α} {z:α},z∈xs.foldl (λR x=>insR c x R) R↔z∈R\/z∈xs
 | [],R,z=>Af
 |x::xs,R,z=>by
  rw[QO,dH5 (xs:=xs),cG2,P5];grind
theorem dI0{xs:List α}{z:α}:z∈isR c xs↔z∈xs:=by unfold isR;rw[dH5];simp
end
def dX6{α:Type}{f:α->V}{l:List α}{en:AE}{g:Nat}{z:Int}{K:Prop}(d:en.gen=g)(e:en.kind≠ .dead)(b:en.l=l.map f)(a:0<=z/\z<l.length)(h:K):need (en.gen=g/\en.kind≠ .dead/\0<=z/\z<en.l.length) K:=
 fU ⟨d,e,a.1,by rw[b,P6];exact a.2⟩ h
def dY5{α:Type}{f:α->V}{l:List α}{n:Nat}{v:V}{en:AE}{g:Nat}{z:Int}{K:Prop}(d:en.gen=g)(e:en.kind≠ .dead)(b:en.l=(l.map f).set n v)(a:0<=z/\z<l.length)(h:K):need (en.gen=g/\en.kind≠ .dead/\0<=z/\z<en.l.length) K:=
 fU ⟨d,e,a.1,by rw[b,RV,P6];exact a.2⟩ h
def cQ9{l:List V}{i j:Nat}{v:V}{K:V->Prop}(h:j≠i)(d:idx l i K):idx (l.set j v) i K:=by
 obtain⟨x,a,b⟩:=d;exact⟨x,by rw[List.getElem?_set_ne h];exact a,b⟩
def set_mid{α:Type}{A B:List α}{x y:α}{i:Nat}(h:i=A.length):(A++x::B).set i y=A++y::B:=by subst h;simp
def dB8{en:AE}{g:Nat}{K:Prop}(a:en.gen=g)(b:en.kind= .own)(d:K):need (en.gen=g/\en.kind= .own) K:=fU ⟨a,b⟩ d
section
variable{α:Type}{c:α->α->Int}
theorem cX8(l:List α):(qA c l).length=l.length:=by unfold qA;rw[List.length_reverse,dH2]
theorem dB0{l:List α}{z:α}:z∈qA c l↔z∈l:=by unfold qA;rw[List.mem_reverse,dI0]
end
abbrev Vc:=Int×Int
def vcV(v:Vc):V:= .agg [I v.1,I v.2]
abbrev Sg:=Vc×Vc
def sgV(s:Sg):V:= .agg [I s.1.1,I s.1.2,I s.2.1,I s.2.2]
abbrev Bx:=Vc×Vc
def bxV(s:Bx):V:= .agg [I s.1.1,I s.1.2,I s.2.1,I s.2.2]
def cmpI(a b:Int):Int:=if a<b then-1 else if b<a then 1 else 0
def orI(a b:Int):Int:=if a=0 then b else a
def vsub(a b:Vc):Vc:=(W (a.1-b.1),W (a.2-b.2))
def vdot(a b:Vc):Int:=W (W (a.1*b.1)+W (a.2*b.2))
def bZ(a b:Vc):Int:=W (W (a.1*b.2)-W (a.2*b.1))
def kR(a b c:Vc):Int:=cmpI (bZ (vsub b a) (vsub c a)) 0
def vcmp(a b:Vc):Int:=orI (cmpI a.2 b.2) (cmpI a.1 b.1)
def kF(a b:Vc):Prop:=vcmp a b<0
def within(a:Vc)(m:Int):Prop:=W (0-m)<=a.1/\a.1<=m/\W (0-m)<=a.2/\a.2<=m
def bJ8(b:Bx)(a:Vc):Prop:=b.1.1<=a.1/\a.1<=b.2.1/\b.1.2<=a.2/\a.2<=b.2.2
def gU(b:Bx)(v:Vc):Bx:=((min b.1.1 v.1,min b.1.2 v.2),(max b.2.1 v.1,max b.2.2 v.2))
def aC7:List Vc->Bx×Bool
 | [] =>(((0,0),(0,0)),false)
 |v::l=>((v::l).foldl gU (v,v),true)
def bI(s:Sg):Prop:=within s.1 4000/\within s.2 4000
def eX(s:Sg)(p:Vc):Prop:=bI s/\bJ8 (aC7 [s.1,s.2]).1 p/\kR s.1 s.2 p=0
def tmod_lt(a b:Int)(h:b≠0):(a.tmod b).natAbs<b.natAbs:=by
 simp_all [Int.natAbs_tmod,QE]
def gcdI(a b:Int):Int:=if h:b=0 then a else gcdI b (a.tmod b)
termination_by b.natAbs
decreasing_by exact tmod_lt a b h
def divisor(a b:Int):Int:=max (gcdI a b) (W (0-gcdI a b))
def gcd_zero:∀(n:Nat) (a b:Int),b.natAbs<=n->gcdI a b=0->a=0/\b=0:=by
 intro n;induction n with
 |zero=>
  grind [gcdI]
 |succ n f=>
  intro a b e h;rw[gcdI]at h;split at h;rename_i c;exact⟨h,c⟩;rename_i c;have d:=tmod_lt a b c;grind
def R64(n:Int):Prop:= -9223372036854775808<=n/\n<=9223372036854775807
theorem cY8{a b:Int}(h:R64 a):R64 (a.tmod b):=by
 have d:(a.tmod b).natAbs<=a.natAbs:=by rw[Int.natAbs_tmod];exact Nat.mod_le _ _
 unfold R64 at*;rcases Int.le_total 0 a with c|c;have:=Int.tmod_nonneg b c;omega
 have e:a.tmod b<=0:=by
  have:=Int.tmod_nonneg b (a:= -a) Aa;rw[Int.neg_tmod]at this;omega
 omega
def bT7:∀(n:Nat) (a b:Int),b.natAbs<=n->R64 a->R64 b->R64 (gcdI a b):=by
 intro n;induction n with
 |zero=>
  grind [gcdI]
 |succ n h=>
  intro a b g d e;rw[gcdI];split;exact d;rename_i c;have f:=tmod_lt a b c;grind [cY8]
def cB4{a b:Int}(d:R64 a)(f:R64 b)(h:divisor a b=0):a=0/\b=0:=by
 have j:=bT7 _ a b (Po _) d f;unfold divisor at h;refine gcd_zero _ a b (Po _) ?_;have k:gcdI a b<=0:=Aa;have c:W (0-gcdI a b)<=0:=Aa;unfold R64 at j;generalize gcdI a b=g at*;by_cases i:g= -9223372036854775808;subst i;have e:W (0- -9223372036854775808)= -9223372036854775808:=Ai;rw[e]at h;omega;rw[w_in Aa]at h c;omega
def bO1{a b:Int}(c:R64 a)(d:R64 b):R64 (divisor a b):=by
 have e:=bT7 _ a b (Po _) c d;grind [nT,divisor,R64]
def aN2(n:Int):Sp 198 [I n] (.lit (.bool false)):=by
 refine zsp func198 ?_;repeat' ((conv=>whnf);first|refine zS ?_|fail)
 refine aK ?_;have:eqB n n=true:=aA1.2 rfl;rw[this];rfl
def aB9(a b:Int):Sp 159 [I a,I b] (I (cmpI a b)):=by
 refine zsp func159 ?_;unfold cmpI;repeat' ((conv=>whnf);first|refine zc (aN2 a) ?_|refine zc (aN2 b) ?_|refine zS ?_|refine zl (λc=>?_) (λc=>?_))
 all_goals
  conv=>whnf
  refine aG ?_
 rw[Pm c];rw[Ph Aa,Pm c];rw[Ph Aa,Ph Aa]
def fF(a b:Vc):Sp 273 [vcV a,vcV b] (vcV (vsub a b)):=by
 refine zsp func273 ?_;exact MH
def dP6(a b:Vc):Sp 294 [vcV a,vcV b] (I (vdot a b)):=by
 refine zsp func294 ?_;exact MH
def kD(a b:Vc):Sp 255 [vcV a,vcV b] (I (bZ a b)):=by
 refine zsp func255 ?_;exact MH
def aI8(a b c:Vc):Sp 224 [vcV a,vcV b,vcV c] (I (kR a b c)):=by
 refine zsp func224 ?_;repeat' ((conv=>whnf);first|refine zc (fF b a) ?_|refine zc (fF c a) ?_|refine zc (kD (vsub b a) (vsub c a)) ?_|refine zc (aB9 (bZ (vsub b a) (vsub c a)) 0) ?_|refine zS ?_|fail)
 all_goals exact zE
def orL:List Int->Int
 | [] =>0
 |x::l=>if x=0 then orL l else x
theorem orL_2(a b:Int):orL [a,b] =orI a b:=by
 unfold orL orI orL orL;split;split;rename_i h;rw[h];rfl;rfl
def dZ0(l:List Int)(f:l.length<=1000):Sp 238 [.sl (l.map I)] (I (orL l)):=by
 refine zsp func238 ?_;have e:(l.map I).length=l.length:=Af;repeat' ((conv=>whnf);first|refine zS ?_|fail)
 refine aU (A:=List Int) (B:=List Int) (λD R=>mkSt [(3,I 0),(6, .sl (l.map I)),(7,I (l.map I).length),(8,I D.length)] [] []) (λD R=>l=D++R/\orL l=orL R) (λD R=>R.length) [] l ?_ ⟨rfl,rfl⟩ (λD R hp=>?_);exact zj;obtain⟨hp,d⟩:=hp;cases R with
 |nil=>
  have c:l.length=D.length:=Ad;repeat' ((conv=>whnf);first|omega|refine zS ?_|refine zl (λb=>?_) (λb=>?_))
  all_goals conv=>whnf
  exact aG (by rw[d];rfl)
 |cons x R=>
  have c:=aO hp;repeat' ((conv=>whnf);first|omega|refine zS ?_|refine zl (λb=>?_) (λb=>?_)|refine ze (λa=>?_) (λa=>?_))
  all_goals conv=>whnf
  refine⟨(D++[x],R),?_,⟨Ad,by rw[d];show(if x=0 then orL R else x)=_;rw[Pm a]⟩,Af⟩;simp only[OY];exact zj;exact aG (by rw[d];exact(Ph a).symm)
def eO6(a b:Int):Sp 238 [.sl [I a,I b]] (I (orI a b)):=by
 have:=dZ0 [a,b] Af;rw[orL_2]at this;exact this
structure Cm where
 kind:Int
 px:Int
 py:Int
 den:Int
 share:Sg
def cmV(c:Cm):V:= .agg [I c.kind,I c.px,I c.py,I c.den,I c.share.1.1,I c.share.1.2,I c.share.2.1,I c.share.2.2]
def cm0:Cm:=⟨0,0,0,0,((0,0),(0,0))⟩
def single(p:Vc):Cm:=⟨1,p.1,p.2,1,((0,0),(0,0))⟩
def turned(a b d:Int):Int×Int×Int:=if d<0 then(W (0-a),W (0-b),W (0-d))else(a,b,d)
def aL6(s:Sg)(u:Vc)(a d:Int):Int:=W (W (s.1.1*d)+W (a*u.1))
def aP4(s:Sg)(u:Vc)(a d:Int):Int:=W (W (s.1.2*d)+W (a*u.2))
def aH6(a b d:Int):Int:=if a=0\/a=d\/b=0\/b=d then 1 else 2
def lX(s t:Sg):Int:=bZ (vsub t.1 s.1) (vsub t.2 t.1)
def lS(s t:Sg):Int:=bZ (vsub t.1 s.1) (vsub s.2 s.1)
open Classical in
def lines(s t:Sg)(d:Int):Cm:=
 let q:=turned (lX s t) (lS s t) d
 if q.1<0\/q.2.2<q.1\/q.2.1<0\/q.2.2<q.2.1 then cm0
 else
  let x:=aL6 s (vsub s.2 s.1) q.1 q.2.2;let y:=aP4 s (vsub s.2 s.1) q.1 q.2.2;let g:=divisor (divisor x y) q.2.2
  ⟨aH6 q.1 q.2.1 q.2.2,W (x.tdiv g),W (y.tdiv g),W (q.2.2.tdiv g),((0,0),(0,0))⟩
open Classical in
def ordS(s:Sg):Sg:=if kF s.2 s.1 then(s.2,s.1)else s
open Classical in
def hiLo(s t:Sg):Sg:=(if kF s.1 t.1 then t.1 else s.1,if kF t.2 s.2 then t.2 else s.2)
def yD(q:Sg):Cm:=if vcmp q.1 q.2=0 then single q.1 else if vcmp q.1 q.2= -1 then⟨3,0,0,0,q⟩else cm0
def jC(s t:Sg):Int:=bZ (vsub s.2 s.1) (vsub t.2 t.1)
open Classical in
def kQ(s t:Sg):Cm:=
 if¬bI s\/¬bI t then cm0
 else if jC s t≠0 then lines s t (jC s t)
 else if s.1=s.2/\eX t s.1 then single s.1
 else if t.1=t.2/\eX s t.1 then single t.1
 else if s.1=s.2\/t.1=t.2\/kR s.1 s.2 t.1≠0 then cm0
 else yD (hiLo (ordS s) (ordS t))
def dG(s t:Sg):Int:=(kQ s t).kind
theorem fM0(a b:Int):cmpI a b= -1\/cmpI a b=0\/cmpI a b=1:=by
 grind [cmpI]
theorem gC8(a b:Vc):vcmp a b= -1\/vcmp a b=0\/vcmp a b=1:=by
 grind [fM0,vcmp,orI]
abbrev Pt:=Int×Int×Int
def ptV(p:Pt):V:= .agg [I p.1,I p.2.1,I p.2.2]
def bounded(p:Pt)(m:Int):Prop:=1<=p.2.2/\p.2.2<=134217728/\within (p.1,p.2.1) (W (m*p.2.2))
def wJ(p:Pt):Prop:=bounded p 4000/\divisor (divisor p.1 p.2.1) p.2.2=1
abbrev Rg:=List Vc
def rgV(r:Rg):V:= .sl (r.map vcV)
def z0:Vc:=(0,0)
def iU(r:Rg)(i:Nat):Vc:=r.getD ((i+1)% r.length) z0
def mY(r:Rg)(i:Nat):Vc:=r.getD ((i+r.length-1)% r.length) z0
def aJ4(r:Rg)(i:Nat):Sg:=(r.getD i z0,iU r i)
def bF(r:Rg):List Sg:=if r.length<2 then []else(List.range r.length).map (aJ4 r)
def cI8(r:Rg)(n:Nat):Int:=(List.range n).foldl (λa i=>W (a+bZ (r.getD i z0) (iU r i))) 0
def zY(r:Rg):Int:=cI8 r r.length
theorem bC2(r:Rg)(n:Nat):cI8 r (n+1)=W (cI8 r n+bZ (r.getD n z0) (iU r n)):=by
 grind [List.range_succ,cI8]
def bR7(r:Rg):Prop:=∀v∈r,within v 2000
def cZ4(l:List Sg)(n i k:Nat):Prop:=k≠i+1->(i≠0\/k≠n-1)->dG (l.getD i (z0,z0)) (l.getD k (z0,z0))=0
def dM(r:Rg):Prop:=3<=r.length/\r.length<=40/\bR7 r/\0<zY r/\(∀i,i<r.length->kR (mY r i) (r.getD i z0) (iU r i)≠0)/\
 ∀i k,i<k->k<r.length->cZ4 (bF r) r.length i k
open Classical in
def nG(r:Rg):Int:=if dM r then zY r else 0
def toP(p:Pt)(v:Vc):Vc:=(W (p.1-W (v.1*p.2.2)),W (p.2.1-W (v.2*p.2.2)))
def bV4(p:Pt)(e:Sg):Int:=bZ (vsub e.2 e.1) (toP p e.1)
def onE(p:Pt)(e:Sg):Prop:=bV4 p e=0/\min (toP p e.1).1 (toP p e.2).1<=0/\0<=max (toP p e.1).1 (toP p e.2).1/\min (toP p e.1).2 (toP p e.2).2<=0/\0<=max (toP p e.1).2 (toP p e.2).2
def rW(p:Pt)(e:Sg):Prop:=¬(0<=(toP p e.1).2↔0<=(toP p e.2).2)/\(0<=(toP p e.1).2↔0<bV4 p e)
open Classical in
def lU(p:Pt):List Sg->Bool->Int
 | [],ins=>if ins=true then 2 else 0
 |e::es,ins=>if onE p e then 1 else if rW p e then lU p es (!ins)else lU p es ins
open Classical in
def iF(r:Rg)(p:Pt):Int:=if dM r/\wJ p then lU p (bF r) false else 0
open Classical in
def fJ(r:Rg)(v:Vc):Int:=if within v 4000 then iF r (v.1,v.2,1)else 0
open Classical in
def sQ:Vc->List Vc->Vc
 |m,[] =>m
 |m,x::l=>sQ (if kF x m then x else m) l
open Classical in
def sN(v:Vc):List Vc->Nat->Option Nat
 | [],_=>none
 |x::l,k=>if v=x then some k else sN v l (k+1)
def wO(r:Rg):Vc:=sQ (r.getD 0 z0) (r.drop 1)
def wL(r:Rg):Rg:=r.drop ((sN (wO r) r 0).getD 0)++r.take ((sN (wO r) r 0).getD 0)
open Classical in
def gQ(r:Rg):Rg:=if dM r then wL r else []
open Classical in
theorem bD3:∀(l:List Vc) (m:Vc),sQ m l=m\/sQ m l∈l
 | [],m=> .inl rfl
 |x::l,m=>by
  unfold sQ;rcases bD3 l (if kF x m then x else m)with h|h;grind;exact .inr (Qw _ h)
def aT6{v:Vc}:∀ {l:List Vc} {k:Nat},v∈l->∃j,sN v l k=some j/\k<=j/\j<k+l.length
 | [],k,h=>Ag
 |x::l,k,h=>by
  unfold sN;split;exact⟨k,rfl,Po _,Af⟩;rename_i b
  have:v∈l:=by
   simp_all
  obtain⟨j,a,c,d⟩:=aT6 (k:=k+1) this;exact⟨j,a,Aa,Be⟩
def eH8{r:Rg}(h:r≠ []):wO r∈r:=by
 grind [bD3,Qw,wO]
structure Sh where
 outer:Rg
 holes:List Rg
def shV(s:Sh):V:= .agg [rgV s.outer, .sl (s.holes.map rgV)]
def sh0:Sh:=⟨[],[]⟩
def rings(s:Sh):List Rg:=s.outer::s.holes
def pR(r b:Rg)(place:Int):Prop:=∀v∈r,fJ b v=place
def uV(a b:Rg):Prop:=∀x∈bF a,∀y∈bF b,dG x y=0
def corners(l:List Rg):Nat:=(l.map List.length).sum
def cU0(o:Rg)(pre:List Rg)(h:Rg):Prop:=pR h o 2/\uV h o/\∀k∈pre,uV h k/\pR h k 0/\pR k h 0
def qR(o:Rg):List Rg->List Rg->Prop
 |_,[] =>True
 |pre,h::l=>cU0 o pre h/\qR o (pre++[h]) l
def bG(s:Sh):Prop:=s.holes.length<=6/\(∀r∈rings s,dM r)/\corners (rings s)<=80/\qR s.outer [] s.holes
def qH(n:Int)(l:List Rg):Int:=l.foldl (λa r=>W (a-nG r)) n
open Classical in
def uK(s:Sh):Int:=if bG s then qH (W (2*nG s.outer)) (rings s)else 0
def aC0(s:Sh):List Sg:=(rings s).flatMap bF
def qG(out:Int)(p:Pt):List Rg->Int
 | [] =>out
 |h::l=>if iF h p=2 then 0 else if iF h p=1 then 1 else qG out p l
open Classical in
def qW(s:Sh)(p:Pt):Int:=if bG s then(if iF s.outer p=2 then qG 2 p s.holes else iF s.outer p)else 0
open Classical in
def lJ(s:Sh)(v:Vc):Int:=if within v 4000 then qW s (v.1,v.2,1)else 0
def kC(a:Vc)(m:Int):Sp 272 [vcV a,I m] (DB (within a m)):=by
 refine zsp func272 ?_;repeat' ((conv=>whnf);first|refine zg ?_|refine zw ?_|refine zz (λ_=>?_) λ_=>?_|refine zr ?_)
 all_goals conv=>whnf
 all_goals refine aA ?_
 all_goals first
  |(refine le_dec ?_;unfold within;omega)
  |exact aC (by unfold within;omega)
def qI(a b:Vc):Sp 190 [vcV a,vcV b] (I (vcmp a b)):=by
 refine zsp func190 ?_;repeat' ((conv=>whnf);first|refine zc (aB9 a.2 b.2) ?_|refine zc (aB9 a.1 b.1) ?_|(refine aS5 (eO6 (cmpI a.2 b.2) (cmpI a.1 b.1)) true ?_ rfl ?_;focus ((repeat' (first|exact trivial|refine And.intro ?_ ?_|with_reducible rfl|exact(λh=>Ag)|exact rfl));done))|refine zS ?_|fail)
 all_goals exact zE
def yQ(a b:Vc):Sp 314 [vcV a,vcV b] (DB (kF a b)):=by
 refine zsp func314 ?_;repeat' ((conv=>whnf);first|refine zc (qI a b) ?_|refine zS ?_|fail)
 all_goals conv=>whnf
 exact aA eU2
def cQ7(b:Bx)(a:Vc):Sp 323 [bxV b,vcV a] (DB (bJ8 b a)):=by
 refine zsp func323 ?_;repeat' ((conv=>whnf);first|refine zS ?_|refine zT ?_ ?_<;>intro _|fail)
 all_goals conv=>whnf
 all_goals refine aA ?_
 all_goals first
  |(refine le_dec ?_;unfold bJ8;omega)
  |exact aC (by unfold bJ8;omega)
def aK1(s:Sg):Sp 311 [sgV s] (DB (bI s)):=by
 refine zsp func311 ?_;repeat' ((conv=>whnf);first|refine zc (kC s.1 4000) ?_|refine zc (kC s.2 4000) ?_|refine zS ?_|refine zT ?_ ?_<;>intro _|fail)
 all_goals conv=>whnf
 all_goals refine aA ?_
 all_goals first
  |(refine fQ ?_;unfold bI;simp[*];done)
  |exact aC (by unfold bI;simp[*])
end Go.Proofs.Led
