/- Lemmas. -/
import Derived.Test.YtecbpikbjfihmaaGreatDoorA5
import Derived.Test.YtecbpikbjfihmaaGreatDoorProg
import Derived.Laws.StructEq
import Derived.WideShapes
import Derived.Lib.ItoaNum
set_option linter.all false
set_option autoImplicit true
set_option relaxedAutoImplicit true
set_option maxRecDepth 100000
set_option maxHeartbeats 4000000
noncomputable section
namespace Go.Proofs.Led
open Go Go.Proofs Go.Ab Tryz
def SL:=@underlying3
def TF:=@underlying4
structure LayP(w:World)(F:Nat->Prop):Prop where
 p10:F 0/\∃t z,w.heap[0]? =some (.cells (Lib.pow10Tab.map (Value.int .u64)).toArray t z)
def layP_mono(h:∀b,F b->a b/\w'.heap[b]? =w.heap[b]?)(l:LayP w F):LayP w' a:=
 ⟨⟨(h _ l.p10.1).1,by rw[(h _ l.p10.1).2];exact l.p10.2⟩⟩
def T:Tab:=eD6 Tryz.prog 359 [0,29,37,43,58,75,77,81,95,98,108,118,125,164,171,192,197,204,214,240,276,330,345] LayP layP_mono [112,37]
def uG:bP T Tryz.prog:=dM2 Ac
def mixed:Tryz.prog.follows .mixedOrders=true:=Ac
abbrev Sp(f:FuncId)(ys:List V)(r:V):Prop:=Go.Ab.Spec T Tryz.prog f ys r
def dR(c:Tryz.prog.funcs[f]? =some a)(b:callable Tryz.prog f=true)(d:Nat.ble ys.length a.ntmps=true)(h:fnVC T Tryz.prog a ys r):Sp f ys r:=
 eH1 uG mixed c b (Uc d) h
abbrev SpIO(f:FuncId)(ys:List V)(r:V)(e:TypeId)(l:List V):Prop:=bE5 T Tryz.prog f ys r 0 e l
def eH7(i:y= .own e l)(d:Tryz.prog.funcs[f]? =some a)(c:callable Tryz.prog f=true)(g:Nat.ble (y::ys).length a.ntmps=true)(h:fnIO T Tryz.prog a (y::ys) r 0 e b):SpIO f (y::ys) r e b:=
 cE4 uG mixed d c (Uc g) Ai (by rw[i];rfl) h
abbrev SpB(f:FuncId)(ys:List V)(bs:List (List V))(r:V)(bs':List (List V)):Prop:=aU2 T Tryz.prog f ys bs r bs'
def b_of(j:Tryz.prog.funcs[f]? =some c)(i:callable Tryz.prog f=true)(g:(Nat.ble ys.length c.ntmps&&Nat.blt c.ntmps 100000)=true)(d:(Nat.ble bs.length 8&&bs.all λb=>Nat.blt b.length 100000)=true)(k:a.map List.length=bs.map List.length)(h:jR T Tryz.prog c ys bs r a):SpB f ys bs r a:=by
 rw[Ru]at g d;exact dP3 uG mixed j i (Uc g.1) (blt g.2) (Uc d.1) (λb e=>blt (Uo.1 d.2 b e)) k h
def gJ7(r:V):Bool:=match r with| .tup (.bot::_)=>false|_=>true
def xX(h:Sp f ys r)(l:gJ7 r=true:=by rfl):aU2 T Tryz.prog f ys [] r [] :=by
 have h:=dY8.g.1 h;refine⟨h.1,rfl,λw G cs b c d i j k=>(h.2.2 w G cs b c d i j k).mono ?_⟩;rintro e w' ⟨v,G',rfl,⟨a,_⟩,q⟩;refine⟨v,G',rfl,?_,q⟩;unfold Rr at a;unfold RrB;split at a;exact Bool.noConfusion (show false=true from l);grind [dQ1];grind [dQ1]
def I(n:Int):V:= .lit (.int .i64 n)
def U(n:Int):V:= .lit (.int .u8 n)
def S(s:ByteArray):V:= .lit (.string s)
abbrev aI:ByteArray:={data:= #[]}
abbrev nilV:V:= .lit (.slice none 0 0)
abbrev W(n:Int):Int:=IntKind.i64.wrap n
theorem nT n: -9223372036854775808<=W n/\W n<=9223372036854775807:=by
 grind [IntKind.wrap,IntKind.signed,IntKind.bits]
theorem w_in(h: -9223372036854775808<=n/\n<=9223372036854775807):W n=n:=IntWalk.i64_in _ Aa
@[irreducible] def decB(p:Prop):Bool:= @decide p (Classical.propDecidable p)
abbrev DB(p:Prop):V:= .lit (.bool (decB p))
theorem dH:decB p=true↔p:=by unfold decB;simp
theorem dW:decB p=false↔¬p:=by unfold decB;simp
def eZ0{p A B}(a:p->A)(b:¬p->B):branch (decB p) A B:=jU (λh=>a (dH.1 h)) (λh=>b (dW.1 h))
def fE(h:p):true=decB p:=(dH.2 h).symm
def aC(h:¬p):false=decB p:=(dW.2 h).symm
def aS1(h:a<b↔p):ltB a b=decB p:=TT.2 (by rw[dC8,dH];exact h)
def le_dec(h:a<=b↔p):leB a b=decB p:=TT.2 (by rw[bV6,dH];exact h)
def sK(h:a=b↔p):eqB a b=decB p:=TT.2 (by rw[aA1,dH];exact h)
def aF6(h:b=false↔p):(!b)=decB p:=TT.2 (by rw[dH,<-h];cases b<;>simp)
def fQ(h:p↔q):decB p=decB q:=TT.2 (by rw[dH,dH];exact h)
def eqB_d:eqB a b=decB (a=b):=sK RU
def eU2:ltB a b=decB (a<b):=aS1 RU
theorem eG4:eqS a b=true↔a=b:=by
 unfold eqS;rw[beq_iff_eq,ByteArray.toList_eq,ByteArray.toList_eq];exact⟨WideShapes.bytes_inj,λh=>by rw[h]⟩
def eqS_f:eqS a b=false↔a≠b:=by rw[<-Ue,eG4]
def jI{A B}(c:a=b->A)(d:a≠b->B):branch (eqS a b) A B:=jU (λh=>c (eG4.1 h)) (λh=>d (eqS_f.1 h))
def qV(h:a=b↔p):eqS a b=decB p:=TT.2 (by rw[eG4,dH];exact h)
theorem dE9:andB a b=true↔a=true/\b=true:=by rw[eQ7,Ru]
def aA(h:b=decB p):iQ T ar [.lit (.bool (decB p))] [.lit (.bool b)]/\iR [.lit (.bool b)] [.lit (.bool (decB p))] =true/\(∀rs,(V.lit (.bool (decB p)))≠ .tup rs):=aK h
def bW7(a:K (W n)):arith .i64 n K:=⟨a⟩
def fK(h:k.wrap n=m)(a:K m):arith k n K:=⟨by rw[h];exact a⟩
def aU{T}{A B:Type}(st:A->B->St)(inv:A->B->Prop)(m:A->B->Nat) d f(g:Le T σ (st d f))(i:inv d f)(h:∀a b,inv a b->x (st a b) λe c=>match e with
 | .normal=>∃p':A×B,Le T c (st p'.1 p'.2)/\inv p'.1 p'.2/\m p'.1 p'.2<m a b
 |e=>Q e c):bI0 T x σ Q:=
 lD (A:=A×B) (λp=>st p.1 p.2) (λp=>inv p.1 p.2) (λp=>m p.1 p.2) (d,f) g i (λp j=>h p.1 p.2 j)
def oU{T:Tab}{σ:St}{x:aA2}{Q:Exit->St->Prop}{A B C:Type}(st:A->B->C->St)(inv:A->B->C->Prop)(m:A->B->C->Nat)(f:A)(g:B)(i:C)(j:Le T σ (st f g i))(k:inv f g i)(h:∀a b c,inv a b c->x (st a b c) λe d=>match e with
 | .normal=>∃p':A×B×C,Le T d (st p'.1 p'.2.1 p'.2.2)/\inv p'.1 p'.2.1 p'.2.2/\m p'.1 p'.2.1 p'.2.2<m a b c
 |e=>Q e d):bI0 T x σ Q:=
 lD (A:=A×B×C) (λp=>st p.1 p.2.1 p.2.2) (λp=>inv p.1 p.2.1 p.2.2) (λp=>m p.1 p.2.1 p.2.2) (f,g,i) j k (λp l=>h p.1 p.2.1 p.2.2 l)
def aF{a:Type}{f}{l A B}{x:a}(h:l=A++x::B)(hi:i=A.length)(b:K (f x)):idx (l.map f) i K:=by
 subst h hi;exact dE3 _ Ad b
def gK{a:Type}{f}{l:List a}{x}(h:l[j]? =some x)(hi:i=j)(b:K (f x)):idx (l.map f) i K:=by
 subst hi;exact dE3 _ (by rw[RN,h];rfl) b
def aB{a:Type}{f:a->V}{l:List a}{z:Int}(h:0<=z/\z<l.length)(b:K):need (0<=z/\z< (l.map f).length) K:=fU ⟨h.1,by rw[Rw];exact h.2⟩ b
def cK2{s:ByteArray}{z:Int}(h:0<=z/\z<s.size)(a:K):need (0<=z/\z< (s.size:Int)) K:=fU h a
def dJ7{s:ByteArray}:s.size=0↔s={data:= #[]}:=by
 let⟨a⟩:=s;constructor;intro h;have:a= #[] :=Array.eq_empty_of_size_eq_zero h;rw[this];intro h;rw[h];rfl
theorem eT0{a:Type}{f:a->V}{l:List a}:(l.map f).length=l.length:=Ad
def aO{a:Type}{l A B}{x:a}(h:l=A++x::B):l.length=A.length+B.length+1:=by rw[h];simp;omega
def mX{b:Type}{f}{l:List b}{en:AE}{g e a size:Nat}{x:V}(c:en.l=l.map f)(d:en.gen=g)(h:en.kind= .own\/en.kind= .ap)(i:en.ty=e)(j:a<=10000)(m:x.cells.length=size)(n:l.length<=100000000)(k:K):
 need (en.gen=g/\(en.kind= .own\/en.kind= .ap)/\en.ty=e/\(en.l.length+[x].length)*a<=140737488355328/\en.l.length+[x].length<=140737488355328/\∀y∈[x],y.cells.length=size) K:=
 iH d h i j (dA m) (by rw[c,Rw,Rj];omega) k
def fst{α:Type}(Q:α->Prop)(l:List α):Nat:=(l.takeWhile λm=> !decB (Q m)).length
def fstI{α:Type}(Q:α->Prop)(l:List α):Int:=if fst Q l<l.length then fst Q l else-1
def wH{a:Type}{p}{D R}{x:a}(h:∀y∈D,p y=true)(b:p x=false):((D++x::R).takeWhile p).length=D.length:=by
 simp_all
theorem fC3{a:Type}{p}{D:List a}(h:∀y∈D,p y=true):(D.takeWhile p).length=D.length:=by
 induction D<;>simp_all
def iO:¬fst Q l<l.length↔∀m∈l,¬Q m:=by
 unfold fst;constructor;intro h m b c;apply h;clear h;induction l<;>grind [Ut,dH,Ro]
 grind [fC3,dW]
abbrev zg:= @eY7
abbrev zw:= @bW7
abbrev zn:= @eZ2
abbrev zd:= @eZ0
abbrev zl:= @br_lt
abbrev zk:= @br_le
abbrev ze:= @eV7
abbrev zb:= @jU
abbrev zr:= @ret_i
abbrev zq:= @fA7
class Bc (b:Bool) (p q:outParam Prop):Prop where
 t:b=true->p
 f:b=false->q
instance{p:Prop}:Bc (decB p) p (¬p):=⟨dH.1,dW.1⟩
instance{a b:Int}:Bc (ltB a b) (a<b) (b<=a):=⟨dC8.1,eU6.1⟩
instance{a b:Int}:Bc (leB a b) (a<=b) (b<a):=⟨bV6.1,eU7.1⟩
instance{a b:Int}:Bc (eqB a b) (a=b) (a≠b):=⟨aA1.1,dY0.1⟩
def zz{p q A B}[Bc b p q](a:p->A)(c:q->B):branch b A B:=jU (λh=>a (Bc.t h)) (λh=>c (Bc.f h))
section
variable{T:Tab}{P:Program}{σ:St}
def zi(a:K [])(h:cP6 T ops=true:=by kernel_rfl):aC9 T env ops K:=eZ1 h a
def za(a:K n)(h: -9223372036854775808<=n/\n<=9223372036854775807:=by omega):arith .i64 n K:=eH4 h a
def zo(a:K)(h:p:=by first|omega|exact rfl):need p K:=fU h a
def zm{a:Type}{f}{l:List a}(h:∀x,l[i]? =some x->K (f x))(hi:i<l.length:=by omega):idx (l.map f) i K:=eQ9 hi h
def zv{en:AE}(c:K)(a:en.gen=g:=by exact rfl)(b:en.kind≠ .dead:=by exact λh=>Ah):need (en.gen=g/\en.kind≠ .dead) K:=eY0 a b c
def zj{e}(c:wk8 σ.ar (ofO b)/\wk8b σ.bx (ofO a):=by(repeat' (first|exact trivial|refine And.intro ?_ ?_|with_reducible rfl|exact(λh=>Ah)|exact Rf _|omega|exact rfl))<;>fail)(d:wkA T σ b:=by(repeat' (first|exact trivial|refine And.intro ?_ ?_|with_reducible rfl|exact(λh=>Ah)|exact Rf _|omega|exact rfl))<;>fail)(f:wkB σ (ofO a) (ofO b) a:=by(repeat' (first|exact trivial|refine And.intro ?_ ?_|with_reducible rfl|exact(λh=>Ah)|exact Rf _|omega|exact rfl))<;>fail)(g:wkE σ (ofO a) (ofO b) e:=by(repeat' (first|exact trivial|refine And.intro ?_ ?_|with_reducible rfl|exact(λh=>Ah)|exact Rf _|omega|exact rfl))<;>fail):Le T σ (mkSt e a b):=dV c d f g
def zc{a}(g:Go.Ab.Spec T P f ys r)
 (e:zZ σ d (reuse σ (bD ys xs)) r λv i=>K v (appR (cond false [] (aV σ (bK ys xs))) (appR (aX σ (bD ys xs)) i)))
 (c:iQ T σ.ar ys xs:=by(repeat' (first|exact trivial|refine And.intro ?_ ?_|with_reducible rfl|exact(λh=>Ah)|exact rfl))<;>fail)
 (b:sO a.light false xs ys r=true:=by exact rfl):kY T P a σ d f xs K:=aS5 g false c b e
def zh{a}(j:Go.Ab.aU2 T P f ys bs r b) is
 (g:aX2 σ.bx σ.ar is (ownG ((xs,ys)::eU σ.bx bs is)) d r b λv k=>K v (appR (aV σ (mF ((xs,ys)::eU σ.bx bs is))) (appR (aX σ (ownG ((xs,ys)::eU σ.bx bs is))) k)))
 (i:a.may d is ((xs,ys)::eU σ.bx bs is)=true:=by exact rfl)(e:xM T σ.ar is ((xs,ys)::eU σ.bx bs is):=by(repeat' (first|exact trivial|refine And.intro ?_ ?_|with_reducible rfl|exact(λh=>Ah)|exact rfl))<;>fail)(c:zA σ.bx ((xs,ys)::eU σ.bx bs is) is bs r=true:=by exact rfl):kY T P a σ d f xs K:=fC9 j is i e c g
def zt(a:iQ T ar [r] [x] :=by(repeat' (first|exact trivial|refine And.intro ?_ ?_|with_reducible rfl|exact(λh=>Ah)|exact rfl))<;>fail)(b:iR [x] [r] =true:=by exact rfl)(c:∀rs,r≠ .tup rs:=by exact λrs h=>V.noConfusion h):iQ T ar [r] [x]/\iR [x] [r] =true/\(∀rs,r≠ .tup rs):=⟨a,b,c⟩
def zu(h:iQ T ar ys xs/\iR xs ys=true:=by(repeat' (first|exact trivial|refine And.intro ?_ ?_|with_reducible rfl|exact(λh=>Ah)|exact rfl))<;>fail):∃a,V.tup ys= .tup a/\iQ T ar a xs/\iR xs a=true:=⟨ys,rfl,h⟩
end
def zy(a:K)(h:(T.row t).eq=true:=by kernel_rfl):need ((T.row t).eq=true) K:=fU h a
def zc1{A:Prop}(h:A:=by(repeat' (first|exact trivial|refine And.intro ?_ ?_|with_reducible rfl|exact(λ_ h=>Ah)|exact rfl))<;>fail):A:=h
def zsp(c:Tryz.prog.funcs[f]? =some a)(h:fnVC T Tryz.prog a ys r)(b:callable Tryz.prog f=true:=by kernel_rfl)(d:Nat.ble ys.length a.ntmps=true:=by kernel_rfl):Sp f ys r:=dR c b d h
def zS{p q:Prop}(a:q)(h:q->p:=by
 intro a
 first|exact zg a|exact zi a|exact za a|exact zw a|exact zy a|exact zo a|exact zn a|exact zv a|exact aB Aa a|exact aF Ag Aa a|exact gK Ag Aa a|exact zc Ag a|exact zr a|exact zq a):p:=h a
def zU{p q:Prop}(a:q)(h:q->p:=by
 intro a
 first|exact zi a|exact za a|exact zw a|exact zy a|exact zo a|exact zn a|exact zv a|exact aB Aa a|exact aF Ag Aa a|exact gK Ag Aa a|exact zc Ag a|exact zr a|exact zq a):p:=h a
def zT{p q r:Prop}(a:q)(b:r)(h:q->r->p:=by
 intro a b
 first|exact zz a b|exact zb a b):p:=h a b
def zE{p:Prop}(h:p:=by
 (conv=>whnf)
 first|exact aG rfl|exact aK rfl|exact aP rfl|exact zt|exact zu):p:=h
def zF{p:Prop}(h:p:=by
 repeat' ((conv=>whnf);first|omega|(exfalso;contradiction)|refine zS ?_|refine zT ?_ ?_<;>intro _|fail)
 all_goals exact zE):p:=h
section
variable{α:Type}(c:α->α->Int)
def insR(x:α):List α->List α
 | [] => [x]
 |y::r=>if c x y<0 then y::insR x r else x::y::r
def isR(xs:List α):List α:=xs.foldl (λR x=>insR c x R) []
def qA(xs:List α):List α:=(isR c xs).reverse
variable{c}
theorem cE5 x:∀R,(insR c x R).length=R.length+1
 | [] =>rfl
 |y::r=>by
  unfold insR;split;simp[cE5 x r];simp
theorem eB2 xs x:isR c (xs++[x])=insR c x (isR c xs):=by simp[isR]
theorem dG7:∀(xs R:List α),(xs.foldl (λR x=>insR c x R) R).length=R.length+xs.length
 | [],R=>rfl
 |x::xs,R=>by rw[RV,dG7 xs,cE5];simp;omega
theorem dH2 xs:(isR c xs).length=xs.length:=by unfold isR;rw[dG7];simp
theorem cG2:∀ {R} {z},z∈insR c x R↔z=x\/z∈R
 | [],z=>by simp[insR]
 |y::r,z=>by
  unfold insR;split;rw[Rl,cG2 (R:=r),Rl];constructor<;>(rintro(h|h|h)<;>simp[h]);simp
theorem dH5:∀ {xs R:List α} {z},z∈xs.foldl (λR x=>insR c x R) R↔z∈R\/z∈xs
 | [],R,z=>Ad
 |x::xs,R,z=>by
  rw[RV,dH5 (xs:=xs),cG2,Rl];grind
theorem dI0:z∈isR c xs↔z∈xs:=by unfold isR;rw[dH5];simp
end
def dX6{α:Type}{f}{l:List α}{en:AE}{z:Int}(d:en.gen=g)(e:en.kind≠ .dead)(b:en.l=l.map f)(a:0<=z/\z<l.length)(h:K):need (en.gen=g/\en.kind≠ .dead/\0<=z/\z<en.l.length) K:=
 fU ⟨d,e,a.1,by rw[b,Rw];exact a.2⟩ h
def dY5{α:Type}{f}{l:List α}{en:AE}{z:Int}(d:en.gen=g)(e:en.kind≠ .dead)(b:en.l=(l.map f).set n v)(a:0<=z/\z<l.length)(h:K):need (en.gen=g/\en.kind≠ .dead/\0<=z/\z<en.l.length) K:=
 fU ⟨d,e,a.1,by rw[b,TK,Rw];exact a.2⟩ h
def cQ9(h:j≠i)(d:idx l i K):idx (l.set j v) i K:=by
 let⟨x,a,b⟩:=d;exact⟨x,by rw[List.getElem?_set_ne h];exact a,b⟩
def set_mid{α:Type}{A B}{x y:α}(h:i=A.length):(A++x::B).set i y=A++y::B:=by subst h;simp
def dB8{en:AE}(a:en.gen=g)(b:en.kind= .own)(d:K):need (en.gen=g/\en.kind= .own) K:=fU ⟨a,b⟩ d
section
variable{α:Type}{c:α->α->Int}
theorem cX8 l:(qA c l).length=l.length:=by unfold qA;rw[List.length_reverse,dH2]
theorem dB0:z∈qA c l↔z∈l:=by unfold qA;rw[List.mem_reverse,dI0]
end
abbrev Vc:=Int×Int
def vcV(v:Vc):V:= .agg [I v.1,I v.2]
abbrev Sg:=Vc×Vc
def sgV(s:Sg):V:= .agg [I s.1.1,I s.1.2,I s.2.1,I s.2.2]
abbrev Bx:=Vc×Vc
def bxV(s:Bx):V:= .agg [I s.1.1,I s.1.2,I s.2.1,I s.2.2]
def cmpI(a b:Int):Int:=if a<b then-1 else if b<a then 1 else 0
def orI(a b:Int):Int:=if a=0 then b else a
def vsub(a b:Vc):Vc:=(W (a.1-b.1),W (a.2-b.2))
def vdot(a b:Vc):Int:=W (W (a.1*b.1)+W (a.2*b.2))
def bZ(a b:Vc):Int:=W (W (a.1*b.2)-W (a.2*b.1))
def kR(a b c:Vc):Int:=cmpI (bZ (vsub b a) (vsub c a)) 0
def vcmp(a b:Vc):Int:=orI (cmpI a.2 b.2) (cmpI a.1 b.1)
def kF(a b:Vc):Prop:=vcmp a b<0
def within(a:Vc)(m:Int):Prop:=W (0-m)<=a.1/\a.1<=m/\W (0-m)<=a.2/\a.2<=m
def bJ8(b:Bx)(a:Vc):Prop:=b.1.1<=a.1/\a.1<=b.2.1/\b.1.2<=a.2/\a.2<=b.2.2
def gU(b:Bx)(v:Vc):Bx:=((min b.1.1 v.1,min b.1.2 v.2),(max b.2.1 v.1,max b.2.2 v.2))
def aC7:List Vc->Bx×Bool
 | [] =>(((0,0),(0,0)),false)
 |v::l=>((v::l).foldl gU (v,v),true)
def bI(s:Sg):Prop:=within s.1 4000/\within s.2 4000
def eX(s:Sg)(p:Vc):Prop:=bI s/\bJ8 (aC7 [s.1,s.2]).1 p/\kR s.1 s.2 p=0
def tmod_lt(a b:Int)(h:b≠0):(a.tmod b).natAbs<b.natAbs:=by
 simp_all [Int.natAbs_tmod,SC]
def gcdI(a b:Int):Int:=if h:b=0 then a else gcdI b (a.tmod b)
termination_by b.natAbs
decreasing_by exact tmod_lt a b h
def divisor(a b:Int):Int:=max (gcdI a b) (W (0-gcdI a b))
def gcd_zero:∀ n  a b,b.natAbs<=n->gcdI a b=0->a=0/\b=0:=by
 intro n;induction n with
 |zero=>
  grind [gcdI]
 |succ n f=>
  intro a b e h;rw[gcdI]at h;split at h;rename_i c;exact⟨h,c⟩;rename_i c;have d:=tmod_lt a b c;grind
def R64(n:Int):Prop:= -9223372036854775808<=n/\n<=9223372036854775807
theorem cY8(h:R64 a):R64 (a.tmod b):=by
 have d:(a.tmod b).natAbs<=a.natAbs:=by rw[Int.natAbs_tmod];exact Nat.mod_le _ _
 unfold R64 at*;rcases Int.le_total 0 a with c|c;have:=Int.tmod_nonneg b c;omega
 have e:a.tmod b<=0:=by
  have:=Int.tmod_nonneg b (a:= -a) Aa;rw[Int.neg_tmod]at this;omega
 omega
def bT7:∀ n  a b,b.natAbs<=n->R64 a->R64 b->R64 (gcdI a b):=by
 intro n;induction n with
 |zero=>
  grind [gcdI]
 |succ n h=>
  intro a b g d e;rw[gcdI];split;exact d;rename_i c;have f:=tmod_lt a b c;grind [cY8]
def cB4(d:R64 a)(f:R64 b)(h:divisor a b=0):a=0/\b=0:=by
 have j:=bT7 _ a b (Rf _) d f;unfold divisor at h;refine gcd_zero _ a b (Rf _) ?_;have k:=Aa;have c:W (0-gcdI a b)<=0:=Aa;unfold R64 at j;generalize gcdI a b=g at*;by_cases i:g= -9223372036854775808;subst i;have e:W (0- -9223372036854775808)= -9223372036854775808:=Ai;rw[e]at h;omega;rw[w_in Aa]at h c;omega
def bO1(c:R64 a)(d:R64 b):R64 (divisor a b):=by
 have e:=bT7 _ a b (Rf _) c d;grind [nT,divisor,R64]
def aN2 n:Sp 116 [I n] (.lit (.bool false)):=by
 refine zsp func116 ?_;repeat' ((conv=>whnf);first|refine zS ?_|fail)
 refine aK ?_;have:eqB n n=true:=aA1.2 rfl;rw[this];rfl
def aB9 a b:Sp 76 [I a,I b] (I (cmpI a b)):=by
 refine zsp func76 ?_;unfold cmpI;repeat' ((conv=>whnf);first|refine zc (aN2 a) ?_|refine zc (aN2 b) ?_|refine zS ?_|refine zl (λc=>?_) (λc=>?_))
 all_goals
  conv=>whnf
  refine aG ?_
 rw[QU c];rw[Q9 Aa,QU c];rw[Q9 Aa,Q9 Aa]
def fF a b:Sp 203 [vcV a,vcV b] (vcV (vsub a b)):=by
 refine zsp func203 ?_;exact Oq
def dP6 a b:Sp 315 [vcV a,vcV b] (I (vdot a b)):=by
 refine zsp func315 ?_;exact Oq
def kD a b:Sp 165 [vcV a,vcV b] (I (bZ a b)):=by
 refine zsp func165 ?_;exact Oq
def aI8 a b c:Sp 157 [vcV a,vcV b,vcV c] (I (kR a b c)):=by
 refine zsp func157 ?_;repeat' ((conv=>whnf);first|refine zc (fF b a) ?_|refine zc (fF c a) ?_|refine zc (kD (vsub b a) (vsub c a)) ?_|refine zc (aB9 (bZ (vsub b a) (vsub c a)) 0) ?_|refine zS ?_|fail)
 all_goals exact zE
def orL:List Int->Int
 | [] =>0
 |x::l=>if x=0 then orL l else x
theorem orL_2 a b:orL [a,b] =orI a b:=by
 unfold orL orI orL orL;split;split;rename_i h;rw[h];rfl;rfl
def dZ0 l(f:l.length<=1000):Sp 281 [.sl (l.map I)] (I (orL l)):=by
 refine zsp func281 ?_;have e:(l.map I).length=l.length:=Ad;repeat' ((conv=>whnf);first|refine zS ?_|fail)
 refine aU (A:=List Int) (B:=List Int) (λD R=>mkSt [(3,I 0),(6, .sl (l.map I)),(7,I (l.map I).length),(8,I D.length)] [] []) (λD R=>l=D++R/\orL l=orL R) (λD R=>R.length) [] l ?_ ⟨rfl,rfl⟩ (λD R hp=>?_);exact zj;let⟨hp,d⟩:=hp;cases R with
 |nil=>
  have c:l.length=D.length:=Ae;repeat' ((conv=>whnf);first|omega|refine zS ?_|refine zl (λb=>?_) (λb=>?_))
  all_goals conv=>whnf
  exact aG (by rw[d];rfl)
 |cons x R=>
  have c:=aO hp;repeat' ((conv=>whnf);first|omega|refine zS ?_|refine zl (λb=>?_) (λb=>?_)|refine ze (λa=>?_) (λa=>?_))
  all_goals conv=>whnf
  refine⟨(D++[x],R),?_,⟨Ae,by rw[d];show(if x=0 then orL R else x)=_;rw[QU a]⟩,Ad⟩;simp[QY];exact zj;exact aG (by rw[d];exact(Q9 a).symm)
def eO6 a b:Sp 281 [.sl [I a,I b]] (I (orI a b)):=by
 have:=dZ0 [a,b] Ad;rw[orL_2]at this;exact this
structure Cm where
 kind:Int
 px:Int
 py:Int
 den:Int
 share:Sg
def cmV(c:Cm):V:= .agg [I c.kind,I c.px,I c.py,I c.den,I c.share.1.1,I c.share.1.2,I c.share.2.1,I c.share.2.2]
def cm0:Cm:=⟨0,0,0,0,((0,0),(0,0))⟩
def single(p:Vc):Cm:=⟨1,p.1,p.2,1,((0,0),(0,0))⟩
def turned(a b d:Int):Int×Int×Int:=if d<0 then(W (0-a),W (0-b),W (0-d))else(a,b,d)
def aL6(s:Sg)(u:Vc)(a d:Int):Int:=W (W (s.1.1*d)+W (a*u.1))
def aP4(s:Sg)(u:Vc)(a d:Int):Int:=W (W (s.1.2*d)+W (a*u.2))
def aH6(a b d:Int):Int:=if a=0\/a=d\/b=0\/b=d then 1 else 2
def lX(s t:Sg):Int:=bZ (vsub t.1 s.1) (vsub t.2 t.1)
def lS(s t:Sg):Int:=bZ (vsub t.1 s.1) (vsub s.2 s.1)
open Classical in
def lines(s t:Sg)(d:Int):Cm:=
 let q:=turned (lX s t) (lS s t) d
 if q.1<0\/q.2.2<q.1\/q.2.1<0\/q.2.2<q.2.1 then cm0
 else
  let x:=aL6 s (vsub s.2 s.1) q.1 q.2.2;let y:=aP4 s (vsub s.2 s.1) q.1 q.2.2;let g:=divisor (divisor x y) q.2.2
  ⟨aH6 q.1 q.2.1 q.2.2,W (x.tdiv g),W (y.tdiv g),W (q.2.2.tdiv g),((0,0),(0,0))⟩
open Classical in
def ordS(s:Sg):Sg:=if kF s.2 s.1 then(s.2,s.1)else s
open Classical in
def hiLo(s t:Sg):Sg:=(if kF s.1 t.1 then t.1 else s.1,if kF t.2 s.2 then t.2 else s.2)
def yD(q:Sg):Cm:=if vcmp q.1 q.2=0 then single q.1 else if vcmp q.1 q.2= -1 then⟨3,0,0,0,q⟩else cm0
def jC(s t:Sg):Int:=bZ (vsub s.2 s.1) (vsub t.2 t.1)
open Classical in
def kQ(s t:Sg):Cm:=
 if¬bI s\/¬bI t then cm0
 else if jC s t≠0 then lines s t (jC s t)
 else if s.1=s.2/\eX t s.1 then single s.1
 else if t.1=t.2/\eX s t.1 then single t.1
 else if s.1=s.2\/t.1=t.2\/kR s.1 s.2 t.1≠0 then cm0
 else yD (hiLo (ordS s) (ordS t))
def dG(s t:Sg):Int:=(kQ s t).kind
theorem fM0 a b:cmpI a b= -1\/cmpI a b=0\/cmpI a b=1:=by
 grind [cmpI]
theorem gC8 a b:vcmp a b= -1\/vcmp a b=0\/vcmp a b=1:=by
 grind [fM0,vcmp,orI]
abbrev Pt:=Int×Int×Int
def ptV(p:Pt):V:= .agg [I p.1,I p.2.1,I p.2.2]
def bounded(p:Pt)(m:Int):Prop:=1<=p.2.2/\p.2.2<=134217728/\within (p.1,p.2.1) (W (m*p.2.2))
def wJ(p:Pt):Prop:=bounded p 4000/\divisor (divisor p.1 p.2.1) p.2.2=1
abbrev Rg:=List Vc
def rgV(r:Rg):V:= .sl (r.map vcV)
def z0:Vc:=(0,0)
def iU(r:Rg)(i:Nat):Vc:=r.getD ((i+1)% r.length) z0
def mY(r:Rg)(i:Nat):Vc:=r.getD ((i+r.length-1)% r.length) z0
def aJ4(r:Rg)(i:Nat):Sg:=(r.getD i z0,iU r i)
def bF(r:Rg):List Sg:=if r.length<2 then []else(List.range r.length).map (aJ4 r)
def cI8(r:Rg)(n:Nat):Int:=(List.range n).foldl (λa i=>W (a+bZ (r.getD i z0) (iU r i))) 0
def zY(r:Rg):Int:=cI8 r r.length
theorem bC2 r n:cI8 r (n+1)=W (cI8 r n+bZ (r.getD n z0) (iU r n)):=by
 grind [UF,cI8]
def bR7(r:Rg):Prop:=∀v∈r,within v 2000
def cZ4(l:List Sg)(n i k:Nat):Prop:=k≠i+1->(i≠0\/k≠n-1)->dG (l.getD i (z0,z0)) (l.getD k (z0,z0))=0
def dM(r:Rg):Prop:=3<=r.length/\r.length<=40/\bR7 r/\0<zY r/\(∀i,i<r.length->kR (mY r i) (r.getD i z0) (iU r i)≠0)/\
 ∀i k,i<k->k<r.length->cZ4 (bF r) r.length i k
open Classical in
def nG(r:Rg):Int:=if dM r then zY r else 0
def toP(p:Pt)(v:Vc):Vc:=(W (p.1-W (v.1*p.2.2)),W (p.2.1-W (v.2*p.2.2)))
def bV4(p:Pt)(e:Sg):Int:=bZ (vsub e.2 e.1) (toP p e.1)
def onE(p:Pt)(e:Sg):Prop:=bV4 p e=0/\min (toP p e.1).1 (toP p e.2).1<=0/\0<=max (toP p e.1).1 (toP p e.2).1/\min (toP p e.1).2 (toP p e.2).2<=0/\0<=max (toP p e.1).2 (toP p e.2).2
def rW(p:Pt)(e:Sg):Prop:=¬(0<=(toP p e.1).2↔0<=(toP p e.2).2)/\(0<=(toP p e.1).2↔0<bV4 p e)
open Classical in
def lU(p:Pt):List Sg->Bool->Int
 | [],ins=>if ins=true then 2 else 0
 |e::es,ins=>if onE p e then 1 else if rW p e then lU p es (!ins)else lU p es ins
open Classical in
def iF(r:Rg)(p:Pt):Int:=if dM r/\wJ p then lU p (bF r) false else 0
open Classical in
def fJ(r:Rg)(v:Vc):Int:=if within v 4000 then iF r (v.1,v.2,1)else 0
theorem fL3 p:∀ l  b,lU p l b=0\/lU p l b=1\/lU p l b=2
 | [],b=>by unfold lU;split<;>simp
 |e::es,b=>by
  unfold lU;split;simp;split;exact fL3 p es _;exact fL3 p es _
open Classical in
def sQ:Vc->List Vc->Vc
 |m,[] =>m
 |m,x::l=>sQ (if kF x m then x else m) l
open Classical in
def sN(v:Vc):List Vc->Nat->Option Nat
 | [],_=>none
 |x::l,k=>if v=x then some k else sN v l (k+1)
def wO(r:Rg):Vc:=sQ (r.getD 0 z0) (r.drop 1)
def wL(r:Rg):Rg:=r.drop ((sN (wO r) r 0).getD 0)++r.take ((sN (wO r) r 0).getD 0)
open Classical in
def gQ(r:Rg):Rg:=if dM r then wL r else []
open Classical in
theorem bD3:∀ l  m,sQ m l=m\/sQ m l∈l
 | [],m=> .inl rfl
 |x::l,m=>by
  unfold sQ;rcases bD3 l (if kF x m then x else m)with h|h;grind;exact .inr (RZ _ h)
def aT6:∀ {l} {k},v∈l->∃j,sN v l k=some j/\k<=j/\j<k+l.length
 | [],k,h=>Ah
 |x::l,k,h=>by
  unfold sN;split;exact⟨k,rfl,Rf _,Ad⟩;rename_i b
  have:v∈l:=by
   simp_all
  let⟨j,a,c,d⟩:=aT6 (k:=k+1) this;exact⟨j,a,Aa,AY⟩
def eH8{r:Rg}(h:r≠ []):wO r∈r:=by
 grind [bD3,RZ,wO]
structure Sh where
 outer:Rg
 holes:List Rg
def shV(s:Sh):V:= .agg [rgV s.outer, .sl (s.holes.map rgV)]
def sh0:Sh:=⟨[],[]⟩
def rings(s:Sh):List Rg:=s.outer::s.holes
def pR(r b:Rg)(place:Int):Prop:=∀v∈r,fJ b v=place
def uV(a b:Rg):Prop:=∀x∈bF a,∀y∈bF b,dG x y=0
def corners(l:List Rg):Nat:=(l.map List.length).sum
def cU0(o:Rg)(pre:List Rg)(h:Rg):Prop:=pR h o 2/\uV h o/\∀k∈pre,uV h k/\pR h k 0/\pR k h 0
def qR(o:Rg):List Rg->List Rg->Prop
 |_,[] =>True
 |pre,h::l=>cU0 o pre h/\qR o (pre++[h]) l
def bG(s:Sh):Prop:=s.holes.length<=6/\(∀r∈rings s,dM r)/\corners (rings s)<=80/\qR s.outer [] s.holes
def qH(n:Int)(l:List Rg):Int:=l.foldl (λa r=>W (a-nG r)) n
open Classical in
def uK(s:Sh):Int:=if bG s then qH (W (2*nG s.outer)) (rings s)else 0
def aC0(s:Sh):List Sg:=(rings s).flatMap bF
def qG(out:Int)(p:Pt):List Rg->Int
 | [] =>out
 |h::l=>if iF h p=2 then 0 else if iF h p=1 then 1 else qG out p l
open Classical in
def qW(s:Sh)(p:Pt):Int:=if bG s then(if iF s.outer p=2 then qG 2 p s.holes else iF s.outer p)else 0
open Classical in
def lJ(s:Sh)(v:Vc):Int:=if within v 4000 then qW s (v.1,v.2,1)else 0
def kC a m:Sp 202 [vcV a,I m] (DB (within a m)):=by
 refine zsp func202 ?_;repeat' ((conv=>whnf);first|refine zg ?_|refine zw ?_|refine zz (λ_=>?_) λ_=>?_|refine zr ?_)
 all_goals conv=>whnf
 all_goals refine aA ?_
 all_goals first
  |(refine le_dec ?_;unfold within;omega)
  |exact aC (by unfold within;omega)
def qI a b:Sp 236 [vcV a,vcV b] (I (vcmp a b)):=by
 refine zsp func236 ?_;repeat' ((conv=>whnf);first|refine zc (aB9 a.2 b.2) ?_|refine zc (aB9 a.1 b.1) ?_|(refine aS5 (eO6 (cmpI a.2 b.2) (cmpI a.1 b.1)) true ?_ rfl ?_;focus ((repeat' (first|exact trivial|refine And.intro ?_ ?_|with_reducible rfl|exact(λh=>Ah)|exact rfl));done))|refine zS ?_|fail)
 all_goals exact zE
def yQ a b:Sp 257 [vcV a,vcV b] (DB (kF a b)):=by
 refine zsp func257 ?_;repeat' ((conv=>whnf);first|refine zc (qI a b) ?_|refine zS ?_|fail)
 all_goals conv=>whnf
 exact aA eU2
def cQ7 b a:Sp 295 [bxV b,vcV a] (DB (bJ8 b a)):=by
 refine zsp func295 ?_;repeat' ((conv=>whnf);first|refine zS ?_|refine zT ?_ ?_<;>intro _|fail)
 all_goals conv=>whnf
 all_goals refine aA ?_
 all_goals first
  |(refine le_dec ?_;unfold bJ8;omega)
  |exact aC (by unfold bJ8;omega)
def aK1 s:Sp 253 [sgV s] (DB (bI s)):=by
 refine zsp func253 ?_;repeat' ((conv=>whnf);first|refine zc (kC s.1 4000) ?_|refine zc (kC s.2 4000) ?_|refine zS ?_|refine zT ?_ ?_<;>intro _|fail)
 all_goals conv=>whnf
 all_goals refine aA ?_
 all_goals first
  |(refine fQ ?_;unfold bI;simp[*];done)
  |exact aC (by unfold bI;simp[*])
def dU0{a b:Vc}:andB (eqB a.1 b.1) (andB (eqB a.2 b.2) true)=true↔a=b:=by
 rw[dE9,dE9,aA1,aA1];constructor;rintro⟨c,d,_⟩;exact Prod.ext c d;rintro rfl;exact⟨rfl,rfl,rfl⟩
def aB4{a b:Vc}{A B}(c:a=b->A)(d:a≠b->B):branch (andB (eqB a.1 b.1) (andB (eqB a.2 b.2) true)) A B:=
 jU (λh=>c (dU0.1 h)) (λh=>d (λe=>by rw[dU0.2 e]at h;cases h))
theorem eqVc a b c d:eqT T 4 70 [I a,I b] [I c,I d] =some (andB (eqB a c) (andB (eqB b d) true)):=Ac
def aT1(h:K (andB (eqB a c) (andB (eqB b d) true))):aL1.match_1 (λ_=>Prop) (eqT T 4 70 [I a,I b] [I c,I d]) K (λ_=>False):=by
 rw[eqVc];exact h
def uM{b:Int}(h:b≠0)(a:K):need (b≠0) K:=fU h a
def bI9 l(k:l.length<=1000000):Sp 237 [.sl (l.map vcV)] (.tup [bxV (aC7 l).1, .lit (.bool (aC7 l).2)]):=by
 refine zsp func237 ?_;have d:(l.map vcV).length=l.length:=Ad;cases a:l with
 |nil=>exact KO
 |cons x r=>
  rw[<-a];have c:l.length=r.length+1:=by rw[a];rfl
  have hb:aC7 l=(l.foldl gU (x,x),true):=by rw[a];rfl
  repeat' ((conv=>whnf);first|omega|refine aF (l:=l) (A:=[]) (x:=x) (B:=r) a rfl ?_|refine zS ?_|refine ze (λheq=>?_) (λheq=>?_))
  refine aU (A:=List Vc) (B:=List Vc) (λD R=>mkSt [(0, .sl (l.map vcV)),(2, .box 2 0),(4, .box 4 0),(18,I l.length),(19,I D.length)] [(2,[I 0,I 0,I 0,I 0]),(4,(bxV (D.foldl gU (x,x))).cells)] [])
   (λD R=>l=D++R) (λD R=>R.length) [] l ?_ rfl (λD R hp=>?_)
  exact zj;cases R with
  |nil=>exact J7
  |cons y R=>
   have hlen':=aO hp;have es:(D++[y]).foldl gU (x,x)=gU (D.foldl gU (x,x)) y:=GL;have eD:(D++[y]).length=D.length+1:=Ad;generalize D.foldl gU (x,x)=b at es;let⟨⟨f,g⟩,⟨i,j⟩⟩:=b;repeat' ((conv=>whnf);first|omega|refine cC0 [(4,4),(40,4),(41,4),(62,4),(63,4),(0,999),(5,999),(34,999),(35,999),(36,999),(37,999),(56,999),(57,999),(58,999),(59,999)] Af Ac ?_|refine zS ?_|refine zl (λhlt=>?_) (λhlt=>?_))
   conv=>whnf
   exact OY
def aM9 a b:Sp 294 [I a,I b] (I (divisor a b)):=by
 refine zsp func294 ?_;repeat' ((conv=>whnf);first|refine zS ?_|fail)
 refine aU (A:=Int) (B:=Int) (λx y=>mkSt [(0,I x),(1,I y)] [] []) (λx y=>gcdI x y=gcdI a b) (λx y=>y.natAbs) a b ?_ rfl (λx y hp=>?_);exact zj;have hp:=hp;by_cases h0:y=0
 ·subst h0
  have e:gcdI x 0=x:=by rw[gcdI];simp
  repeat' ((conv=>whnf);first|omega|refine zS ?_|refine zT ?_ ?_<;>intro _|fail)
  all_goals conv=>whnf
  refine aG ?_;unfold divisor;rw[<-hp,e,mG]
 exact J9
def yS s p:Sp 255 [sgV s,vcV p] (DB (eX s p)):=by
 refine zsp func255 ?_;have a:=bI9 [s.1,s.2] Ad;generalize d:aC7 [s.1,s.2] =c at a;let⟨b,ok⟩:=c;repeat' ((conv=>whnf);first|refine zc (aK1 s) ?_|refine zc (cQ7 b p) ?_|refine zc (aI8 s.1 s.2 p) ?_|refine zS ?_|refine zT ?_ ?_<;>intro _|fail)
 all_goals conv=>whnf
 all_goals refine aA ?_
 all_goals first
  |(refine sK ?_;unfold eX;simp[*];done)
  |exact aC (by unfold eX;simp[*])
def zN p:Sp 207 [vcV p] (ptV (p.1,p.2,1)):=by
 refine zsp func207 ?_;exact zF
def vY p:Sp 256 [vcV p] (cmV (single p)):=by
 refine zsp func256 ?_;repeat' ((conv=>whnf);first|refine zc (zN p) ?_|refine zS ?_|fail)
 all_goals exact zE
def cC6 p m:Sp 296 [ptV p,I m] (DB (bounded p m)):=by
 refine zsp func296 ?_;repeat' ((conv=>whnf);first|refine zc (kC (p.1,p.2.1) (W (m*p.2.2))) ?_|refine zS ?_|refine zT ?_ ?_<;>intro _|fail)
 all_goals conv=>whnf
 all_goals refine aA ?_
 all_goals first
  |exact aC (by unfold bounded;omega)
  |(refine fQ ?_;unfold bounded;constructor;(·intro h;exact⟨Aa,Aa,h⟩);(·intro h;exact h.2.2))
def bW9 p:Sp 258 [ptV p] (DB (wJ p)):=by
 refine zsp func258 ?_;repeat' ((conv=>whnf);first|refine zc (cC6 p 4000) ?_|refine zc (aM9 p.1 p.2.1) ?_|refine zc (aM9 (divisor p.1 p.2.1) p.2.2) ?_|refine zS ?_|refine zT ?_ ?_<;>intro _|fail)
 all_goals conv=>whnf
 all_goals refine aA ?_
 all_goals first
  |(refine sK ?_;unfold wJ;simp[*];done)
  |exact aC (by unfold wJ;simp[*])
def eU9 n:R64 (W n):=nT n
def dI2(h:a=0\/a=d\/b=0\/b=d):aH6 a b d=1:=by unfold aH6;rw[QU h]
def dD5(h:¬(a=0\/a=d\/b=0\/b=d)):aH6 a b d=2:=by unfold aH6;rw[Q9 h]
def eN0(c:turned (lX s t) (lS s t) d=(a,b,e))(h:a<0\/e<a\/b<0\/e<b):lines s t d=cm0:=by
 unfold lines;rw[c];exact QU h
def eT2(c:turned (lX s t) (lS s t) d=(a,b,e))(h:¬(a<0\/e<a\/b<0\/e<b)):
 lines s t d=⟨aH6 a b e,W ((aL6 s (vsub s.2 s.1) a e).tdiv (divisor (divisor (aL6 s (vsub s.2 s.1) a e) (aP4 s (vsub s.2 s.1) a e)) e)),W ((aP4 s (vsub s.2 s.1) a e).tdiv (divisor (divisor (aL6 s (vsub s.2 s.1) a e) (aP4 s (vsub s.2 s.1) a e)) e)),W (e.tdiv (divisor (divisor (aL6 s (vsub s.2 s.1) a e) (aP4 s (vsub s.2 s.1) a e)) e)),((0,0),(0,0))⟩:=by
 unfold lines;rw[c];exact Q9 h
def bD4(h:0<=d):turned a b d=(a,b,d):=by unfold turned;rw[Q9 (by omega)]
def bG9(h:d<0):turned a b d=(W (0-a),W (0-b),W (0-d)):=by unfold turned;rw[QU h]
def cT6 s t d(m:d≠0)(l:R64 d):Sp 254 [sgV s,sgV t,I d] (cmV (lines s t d)):=by
 refine zsp func254 ?_;have hA:=kD (vsub t.1 s.1) (vsub t.2 t.1);have hB:=kD (vsub t.1 s.1) (vsub s.2 s.1);obtain⟨q,c⟩:∃q,q=turned (lX s t) (lS s t) d:=⟨_,rfl⟩;obtain⟨a,b,e⟩:=q;have i:aL6 s (vsub s.2 s.1) a e=W (W (s.1.1*e)+W (a*(vsub s.2 s.1).1)):=rfl;have j:aP4 s (vsub s.2 s.1) a e=W (W (s.1.2*e)+W (a*(vsub s.2 s.1).2)):=rfl
 have k:e≠0/\R64 e:=by
  rcases U8 d 0 with h|h;rw[bG9 h]at c;cases c;refine⟨?_,nT _⟩;unfold R64 at l;by_cases n:d= -9223372036854775808;subst n;decide;rw[w_in Aa];omega;rw[bD4 h]at c;cases c;exact⟨m,l⟩
 have hg:divisor (divisor (aL6 s (vsub s.2 s.1) a e) (aP4 s (vsub s.2 s.1) a e)) e≠0:=λh=>
  k.1 (cB4 (bO1 (eU9 _) (eU9 _)) k.2 h).2
 have l0:=eN0 c.symm;have l1:=eT2 c.symm;have g1:=aM9 (aL6 s (vsub s.2 s.1) a e) (aP4 s (vsub s.2 s.1) a e);have g2:=aM9 (divisor (aL6 s (vsub s.2 s.1) a e) (aP4 s (vsub s.2 s.1) a e)) e;rw[i,j]at g1 g2 hg l1
 have neg:d<0->e=W (0-d)/\a=W (0-lX s t)/\b=W (0-lS s t):=λh=>by
  rw[bG9 h]at c;cases c;exact⟨rfl,rfl,rfl⟩
 have pos:0<=d->e=d/\a=lX s t/\b=lS s t:=λh=>by
  rw[bD4 h]at c;cases c;exact⟨rfl,rfl,rfl⟩
 clear i j c;unfold lX lS at neg pos;rcases U8 d 0 with f|g;obtain⟨rfl,rfl,rfl⟩:=neg f;exact Ns;obtain⟨rfl,rfl,rfl⟩:=pos g;exact Ns
theorem cZ7(h:kF s.2 s.1):ordS s=(s.2,s.1):=by unfold ordS;rw[QU h]
theorem cY4(h:¬kF s.2 s.1):ordS s=s:=by unfold ordS;rw[Q9 h]
def bK6(s t s' t':Sg)(k:Nat):List V:=match k with
 |0=> [I s.1.1,I s.1.2,I s.2.1,I s.2.2,I t.1.1,I t.1.2,I t.2.1,I t.2.2]
 |1=> [I s'.1.1,I s'.1.2,I s'.2.1,I s'.2.2,I t.1.1,I t.1.2,I t.2.1,I t.2.2]
 |_=> [I s'.1.1,I s'.1.2,I s'.2.1,I s'.2.2,I t'.1.1,I t'.1.2,I t'.2.1,I t'.2.2]
def twoK(k:Nat):Int:=match k with
 |0=>0
 |1=>2
 |_=>4
def fD1(h:¬bI s\/¬bI t):kQ s t=cm0:=by unfold kQ;rw[QU h]
section
variable{s t:Sg}(hs:bI s)(ht:bI t)
def fA1(hs:bI s)(ht:bI t)(h:jC s t≠0):kQ s t=lines s t (jC s t):=by unfold kQ;rw[Q9 (by simp[hs,ht]),QU h]
def eX5(hs:bI s)(ht:bI t)(h:jC s t=0)(a:s.1=s.2)(b:eX t s.1):kQ s t=single s.1:=by unfold kQ;rw[Q9 (by simp[hs,ht]),Q9 (by simp[h]),QU ⟨a,b⟩]
def fC4(hs:bI s)(ht:bI t)(h:jC s t=0)(a:¬(s.1=s.2/\eX t s.1))(b:t.1=t.2)(c:eX s t.1):kQ s t=single t.1:=by unfold kQ;rw[Q9 (by simp[hs,ht]),Q9 (by simp[h]),Q9 a,QU ⟨b,c⟩]
def eY1(hs:bI s)(ht:bI t)(h:jC s t=0)(a:¬(s.1=s.2/\eX t s.1))(b:¬(t.1=t.2/\eX s t.1))(c:s.1=s.2\/t.1=t.2\/kR s.1 s.2 t.1≠0):kQ s t=cm0:=by unfold kQ;rw[Q9 (by simp[hs,ht]),Q9 (by simp[h]),Q9 a,Q9 b,QU c]
def fA2(hs:bI s)(ht:bI t)(h:jC s t=0)(a:¬(s.1=s.2\/t.1=t.2\/kR s.1 s.2 t.1≠0)):kQ s t=yD (hiLo (ordS s) (ordS t)):=by
 unfold kQ;simp_all
end
def eT6(a:kF s.1 t.1)(b:kF t.2 s.2):hiLo s t=(t.1,t.2):=by unfold hiLo;rw[QU a,QU b]
def eN5(a:kF s.1 t.1)(b:¬kF t.2 s.2):hiLo s t=(t.1,s.2):=by unfold hiLo;rw[QU a,Q9 b]
def eN6(a:¬kF s.1 t.1)(b:kF t.2 s.2):hiLo s t=(s.1,t.2):=by unfold hiLo;rw[Q9 a,QU b]
def eT1(a:¬kF s.1 t.1)(b:¬kF t.2 s.2):hiLo s t=(s.1,s.2):=by unfold hiLo;rw[Q9 a,Q9 b]
def eX9(h:vcmp a b=0):yD (a,b)=single a:=by unfold yD;rw[QU h]
def eX0(h:vcmp a b= -1):yD (a,b)=⟨3,0,0,0,(a,b)⟩:=by unfold yD;rw[Q9 (by show vcmp a b≠0;omega),QU h]
def fC8(h:vcmp a b≠0)(c:vcmp a b≠-1):yD (a,b)=cm0:=by unfold yD;rw[Q9 h,Q9 c]
def cU7 s t:Sp 204 [sgV s,sgV t] (cmV (kQ s t)):=by
 refine zsp func204 ?_;have n:=kD (vsub s.2 s.1) (vsub t.2 t.1);have f:R64 (jC s t):=nT _;rw[show bZ (vsub s.2 s.1) (vsub t.2 t.1)=jC s t from rfl]at n;have o:=fD1 (s:=s) (t:=t);have r:=fA1 (s:=s) (t:=t);have u:=eX5 (s:=s) (t:=t);have v:=fC4 (s:=s) (t:=t);have w:=eY1 (s:=s) (t:=t);have x:=fA2 (s:=s) (t:=t);have z:=λa=>cT6 s t (jC s t) a f;generalize K:kQ s t=M at*;generalize B:jC s t=y at*;generalize lines s t y=H at*;generalize b:hiLo (ordS s) (ordS t)=D at*;repeat' ((conv=>whnf);first|(exfalso;contradiction)|refine zc (aK1 s) ?_|refine zc (aK1 t) ?_|refine zc (fF s.2 s.1) ?_|refine zc (fF t.2 t.1) ?_|refine zc n ?_|refine zc (z Ag) ?_|refine aT1 ?_|refine aB4 (λhv=>?_) (λhv=>?_)|refine zc (yS t s.1) ?_|refine zc (yS s t.1) ?_|refine zc (vY s.1) ?_|refine zc (vY t.1) ?_|refine zc (aI8 s.1 s.2 t.1) ?_|refine zS ?_|refine zd (λa=>?_) (λa=>?_)|refine ze (λd=>?_) (λd=>?_))
 all_goals conv=>whnf
 all_goals first
  |(rw[o He];refine⟨?_,rfl,λrs h=>V.noConfusion h⟩;(repeat' (first|exact trivial|refine And.intro ?_ ?_|with_reducible rfl|exact(λh=>Ah)|exact rfl));done)
  |(rw[r Ag Ag Ag];refine⟨?_,rfl,λrs h=>V.noConfusion h⟩;(repeat' (first|exact trivial|refine And.intro ?_ ?_|with_reducible rfl|exact(λh=>Ah)|exact rfl));done)
  |(rw[u Ag Ag Aa Ag Ag];refine⟨?_,rfl,λrs h=>V.noConfusion h⟩;(repeat' (first|exact trivial|refine And.intro ?_ ?_|with_reducible rfl|exact(λh=>Ah)|exact rfl));done)
  |(rw[v Ag Ag Aa (λq=>F9) Ag Ag];refine⟨?_,rfl,λrs h=>V.noConfusion h⟩;(repeat' (first|exact trivial|refine And.intro ?_ ?_|with_reducible rfl|exact(λh=>Ah)|exact rfl));done)
  |(rw[w Ag Ag Aa (λq=>F9) (λq=>F9) (by first|exact .inl ‹_› |exact .inr (.inl ‹_›)|exact .inr (.inr ‹_›))];refine⟨?_,rfl,λrs h=>V.noConfusion h⟩;(repeat' (first|exact trivial|refine And.intro ?_ ?_|with_reducible rfl|exact(λh=>Ah)|exact rfl));done)
  |skip
 have g:M=yD D:=x Ag Ag Aa (by rintro(q|q|q)<;>first|contradiction|omega);clear o r u v w x
 refine lD (A:=Nat) (λk=>mkSt [(0,sgV s),(1,sgV t),(2, .box 2 0),(3, .box 3 0),(4, .box 4 0),(6, .box 6 0),(7,I (twoK k))] [(2,(sgV s).cells),(3,(sgV t).cells),(4,(cmV cm0).cells),(6,bK6 s t (ordS s) (ordS t) k)] [])
  (λk=>k<=2) (λk=>2-k) 0 ?_ Aa (λk C=>?_)
 exact zj;have j:=cZ7 (s:=s);have i:=cY4 (s:=s);have m:=cZ7 (s:=t);have l:=cY4 (s:=t);have E:twoK 0=0:=rfl;have F:twoK 1=2:=rfl;have G:twoK 2=4:=rfl;have J:(2:Int)=twoK 1:=rfl;match k,C with
 |0,_=>
  repeat' ((conv=>whnf);first|omega|refine zc (yQ s.2 s.1) ?_|refine zS ?_|refine zd (λa=>?_) (λa=>?_)|refine zl (λc=>?_) (λc=>?_))
  all_goals conv=>whnf
  refine⟨1,?_,Aa,Aa⟩;unfold bK6;rw[j a];exact zj;refine⟨1,?_,Aa,Aa⟩;unfold bK6;rw[i a];exact zj
 |1,_=>
  repeat' ((conv=>whnf);first|omega|refine zc (yQ t.2 t.1) ?_|refine zS ?_|refine zd (λa=>?_) (λa=>?_)|refine zl (λc=>?_) (λc=>?_))
  all_goals conv=>whnf
  refine⟨2,?_,Aa,Aa⟩;unfold bK6;rw[m a];exact zj;refine⟨2,?_,Aa,Aa⟩;unfold bK6;rw[l a];exact zj
 |2,_=>
  generalize ordS s=s' at*;generalize ordS t=e at*;repeat' ((conv=>whnf);first|omega|refine cC0 [(6,6),(8,8),(9,9),(123,6),(125,6)] Af Ac ?_|refine zc (yQ s'.1 e.1) ?_|refine zc (yQ e.2 s'.2) ?_|refine zc (qI s'.1 s'.2) ?_|refine zc (qI s'.1 e.2) ?_|refine zc (qI e.1 s'.2) ?_|refine zc (qI e.1 e.2) ?_|refine zc (vY s'.1) ?_|refine zc (vY e.1) ?_|refine zS ?_|refine zd (λa=>?_) (λa=>?_)|refine zl (λc=>?_) (λc=>?_)|refine ze (λd=>?_) (λd=>?_))
  all_goals conv=>whnf
  all_goals
   first
   |rw[eT6 Ag Ag]at b
   |rw[eN5 Ag Ag]at b
   |rw[eN6 Ag Ag]at b
   |rw[eT1 Ag Ag]at b
   subst b
  all_goals first
   |(rw[g,eX9 Ag];refine⟨?_,rfl,λrs h=>V.noConfusion h⟩;(repeat' (first|exact trivial|refine And.intro ?_ ?_|with_reducible rfl|exact(λh=>Ah)|exact rfl));done)
   |(rw[g,eX0 Ag];refine⟨?_,rfl,λrs h=>V.noConfusion h⟩;(repeat' (first|exact trivial|refine And.intro ?_ ?_|with_reducible rfl|exact(λh=>Ah)|exact rfl));done)
   |(rw[g,fC8 Ag Ag];refine⟨?_,rfl,λrs h=>V.noConfusion h⟩;(repeat' (first|exact trivial|refine And.intro ?_ ?_|with_reducible rfl|exact(λh=>Ah)|exact rfl));done)
def fB5(hg:∀m,Sp g (vcV m:: []) (DB (Q m))) l(b:l.length<=1000000):fnVC T Tryz.prog Tryz.f252 [.sl (l.map vcV), .fn g []] (I (fstI Q l)):=by
 have a:(l.map vcV).length=l.length:=Ad;repeat' ((conv=>whnf);first|refine zS ?_|fail)
 refine aU (A:=List Vc) (B:=List Vc) (λD R=>mkSt [(0, .sl (l.map vcV)),(1, .fn g []),(7,I l.length),(8,I D.length)] [] [])
  (λD R=>l=D++R/\∀m∈D,¬Q m) (λD R=>R.length) [] l ?_ ⟨rfl,Ad⟩ (λD R hp=>?_)
 exact zj;exact IJ
def eI1(a:∀m,Sp g (vcV m:: []) (DB (Q m))) l(b:l.length<=1000000):Sp 252 [.sl (l.map vcV), .fn g []] (I (fstI Q l)):=zsp func252 (fB5 a l b)
def fC1{Q:Vc->Prop}(a:∀m,Sp g (vcV m:: []) (DB (Q m)))(l:List Vc)(b:l.length<=1000000):fnVC T Tryz.prog Tryz.f200 [.sl (l.map vcV), .fn g []] (DB (∃m∈l,Q m)):=by
 repeat' ((conv=>whnf);first|refine zc (eI1 a l b) ?_|refine zS ?_|fail)
 exact Np
def dV4{Q:Vc->Prop}(a:∀m,Sp g (vcV m:: []) (DB (Q m)))(l:List Vc)(b:l.length<=1000000):Sp 200 [.sl (l.map vcV), .fn g []] (DB (∃m∈l,Q m)):=zsp func200 (fC1 a l b)
def aS9 s t:Sp 161 [sgV s,sgV t] (I (dG s t)):=by
 refine zsp func161 ?_;repeat' ((conv=>whnf);first|refine zc (cU7 s t) ?_|refine zS ?_|fail)
 all_goals exact zE
def eD9 v:Sp 201 [vcV v] (DB (¬within v 2000)):=by
 refine zsp func201 ?_;repeat' ((conv=>whnf);first|refine zc (kC v 2000) ?_|refine zS ?_|fail)
 all_goals conv=>whnf
 all_goals refine aA (aF6 dW)
def dS7 r(a:r.length<=1000000):Sp 156 [rgV r] (DB (bR7 r)):=by
 refine zsp func156 ?_;repeat' ((conv=>whnf);first|refine zc (dV4 (λv=>eD9 v) r a) ?_|refine zS ?_|fail)
 all_goals conv=>whnf
 all_goals refine aA (aF6 ?_)
 rw[dW];unfold bR7;constructor;intro h v hv;exact QK;rintro h ⟨v,hv,hn⟩;exact hn (h v hv)
def dX5{a n:Nat}(h:z=(a:Int)):z.tmod (n:Int)=((a% n:Nat):Int):=by
 grind
def getD_some{r:Rg}(h:k<r.length):r[k]? =some (r.getD k z0):=by
 simp_all
def sW{r:Rg}{k:Nat}(b:z=(k:Int))(h:k<r.length)(a:K (vcV (r.getD k z0))):idx (r.map vcV) z.toNat K:=
 gK (l:=r) (getD_some h) Aa a
def kS{r:Rg}{a:Nat}(h:z=(a:Int)):z.tmod ((r.map vcV).length:Int)=((a% r.length:Nat):Int):=by rw[eT0,dX5 h]
def aR7 r(i:Nat)(hi:i<r.length)(d:r.length<=1000000):Sp 159 [rgV r,I i] (vcV (iU r i)):=by
 refine zsp func159 ?_;have b:(r.map vcV).length=r.length:=Ad;have c:(i+1)% r.length<r.length:=SC _ Aa;repeat' ((conv=>whnf);first|refine uM Aa ?_|refine aB (l:=r) (by rw[kS (a:=i+1) (by omega)];omega) ?_|refine sW (k:=(i+1)% r.length) (kS Aa) c ?_|refine zS ?_|fail)
 all_goals exact zE
def dJ5 r(i:Nat)(hi:i<r.length)(d:r.length<=1000000):Sp 158 [rgV r,I i] (vcV (mY r i)):=by
 refine zsp func158 ?_;have b:(r.map vcV).length=r.length:=Ad;have c:(i+r.length-1)% r.length<r.length:=SC _ Aa;repeat' ((conv=>whnf);first|refine uM Aa ?_|refine aB (l:=r) (by rw[kS (a:=i+r.length-1) (by omega)];omega) ?_|refine sW (k:=(i+r.length-1)% r.length) (kS Aa) c ?_|refine zS ?_|fail)
 all_goals exact zE
def aU3{r:Rg}{k:Nat}(b:z=(k:Int))(h:k<r.length)(a:K (vcV (r.getD k z0))):idx (r.map vcV) z.toNat K:=sW b h a
def bT2 r(b:r.length<=1000000):Sp 110 [rgV r] (I (zY r)):=by
 refine zsp func110 ?_;have c:(r.map vcV).length=r.length:=Ad;repeat' ((conv=>whnf);first|refine zS ?_|fail)
 refine lD (A:=Nat) (λk=>mkSt [(0,rgV r),(3,I (cI8 r k)),(6,rgV r),(7,I r.length),(8,I k)] [] []) (λk=>k<=r.length) (λk=>r.length-k) 0 ?_ Aa (λk g=>?_);exact zj;have d:=aR7 r k;have f:=bC2 r k;by_cases a:k<r.length
 ·repeat' ((conv=>whnf);first|omega|refine aU3 (k:=k) Aa a ?_|refine zc (d a b) ?_|refine zc (kD (r.getD k z0) (iU r k)) ?_|refine zS ?_|refine zT ?_ ?_<;>intro _|fail)
  all_goals conv=>whnf
  refine⟨k+1,?_,Aa,Aa⟩;simp[f];exact zj
 have e:k=r.length:=by omega
 subst e;exact zF
def aH8(r:Rg)(k:Nat):List Sg:=(List.range k).map (aJ4 r)
def cS0 r k:(aH8 r k).map sgV++[sgV (aJ4 r k)] =(aH8 r (k+1)).map sgV:=by unfold aH8;rw[UF];simp
def bV5 r k:((aH8 r k).map sgV).length=k:=by unfold aH8;simp
def eX7(r:Rg)(k:Nat):St:=match k with
 |0=>mkSt [(0,rgV r),(3,nilV),(9,rgV r),(10,I r.length),(11,I 0)] [] []
 |k+1=>mkSt [(0,rgV r),(3, .arr 23 k),(9,rgV r),(10,I r.length),(11,I ((k:Int)+1))] [] [(23,⟨k, .own,233,(aH8 r (k+1)).map sgV⟩)]
def cK3(h:r.length<2):bF r=[] :=QU h
def bA9(h:¬r.length<2):bF r=aH8 r r.length:=Q9 h
def qE r(c:r.length<=1000000):Sp 160 [rgV r] (.own 233 ((bF r).map sgV)):=by
 refine zsp func160 ?_;have j:(r.map vcV).length=r.length:=Ad;have h1:=cK3 (r:=r);have g:=bA9 (r:=r);by_cases hr:r.length<2;exact JS;rw[g hr];repeat' ((conv=>whnf);first|omega|refine zS ?_|refine zT ?_ ?_<;>intro _|fail)
 refine lD (A:=Nat) (eX7 r) (λk=>k<=r.length) (λk=>r.length-k) 0 ?_ Aa (λk m=>?_);exact zj;have f:=aR7 r k;have l:=cS0 r k;have d:=bV5 r k;match k with
 |0=>
  repeat' ((conv=>whnf);first|omega|refine aU3 (k:=0) Aa Aa ?_|refine zc (f Aa c) ?_|refine fU ⟨QV Ac,QV Ac,dA rfl⟩ ?_|refine zS ?_|refine zT ?_ ?_<;>intro _|fail)
  all_goals conv=>whnf
  refine⟨1,?_,Aa,Aa⟩;exact zj
 |k+1=>
  have b:=bV5 r (k+1);have i:(List.map sgV (aH8 r (k+1))).length+1<=1000000000:=Aa;by_cases a:k+1<r.length
  ·repeat' ((conv=>whnf);first|omega|refine aU3 (k:=k+1) Aa a ?_|refine zc (f a c) ?_|refine iH rfl (.inl rfl) rfl (QV rfl) (dA rfl) i ?_|refine zS ?_|refine zT ?_ ?_<;>intro _|fail)
   all_goals conv=>whnf
   refine⟨k+2,?_,Aa,Aa⟩;show Le T _ (mkSt [(0,rgV r),(3, .arr 23 (k+1)),(9,rgV r),(10,I r.length),(11,I (((k+1:Nat):Int)+1))] [] [(23,⟨k+1, .own,233,(aH8 r (k+1+1)).map sgV⟩)]);rw[<-l];exact zj
  exact JL
def dT0(h:2<=r.length):(bF r).length=r.length:=by
 rw[bA9 Aa];simp[aH8]
def dS{en:AE}{z:Int}(b:en.gen=g)(c:en.kind= .own)(a:0<=z/\z<en.l.length)(d:K):need (en.gen=g/\en.kind≠ .dead/\0<=z/\z<en.l.length) K:=fU ⟨b,(by rw[c];exact λh=>by cases h),a.1,a.2⟩ d
def dV6{l:List Sg}{k:Nat}(b:z=(k:Int))(h:k<l.length)(a:K (sgV (l.getD k (z0,z0)))):idx (l.map sgV) z.toNat K:=by
 subst b;refine gK (l:=l) (j:=k) (x:=l.getD k (z0,z0)) ?_ Aa a;exact Qz
def lN r(c:r.length<=1000000):Sp 107 [rgV r] (DB (dM r)):=by
 refine zsp func107 ?_;have v:(r.map vcV).length=r.length:=Ad;generalize hP:dM r=P;have d:P↔dM r:=GZ;unfold dM at d;repeat' ((conv=>whnf);first|refine zc (dS7 r c) ?_|refine zc (bT2 r c) ?_|refine zS ?_|refine zT ?_ ?_<;>intro _|fail)
 all_goals conv=>whnf
 all_goals first
  |(refine aA (aC ?_);rw[d];intro h;obtain⟨h1,h2,h3,x,y,z⟩:=h;first|omega|contradiction)
  |skip
 have h3:3<=r.length:=Aa;have f:r.length<=40:=Aa;have w:bR7 r:=Ag;have q:0<zY r:=Aa;refine lD (A:=Nat) (λk=>mkSt [(0,rgV r),(3,I r.length),(27,rgV r),(28,I r.length),(29,I k)] [] []) (λk=>k<=r.length/\∀i,i<k->kR (mY r i) (r.getD i z0) (iU r i)≠0) (λk=>r.length-k) 0 ?_ ⟨Aa,λi hi=>Aa⟩ (λk b=>?_);exact zj;obtain⟨b,ht⟩:=b;have l:=aR7 r k;have m:=dJ5 r k;by_cases a:k<r.length
 ·repeat' ((conv=>whnf);first|omega|refine aU3 (k:=k) Aa a ?_|refine zc (l a c) ?_|refine zc (m a c) ?_|refine zc (aI8 (mY r k) (r.getD k z0) (iU r k)) ?_|refine zS ?_|refine zT ?_ ?_<;>intro _|fail)
  all_goals conv=>whnf
  refine aA (aC ?_);rw[d];intro h;exact h.2.2.2.2.1 k a Ag;exact KU
 have o:k=r.length:=Aa;subst o;have g:=dT0 (r:=r) Aa;have s:=qE r c;generalize B:bF r=E at*;have t:(E.map sgV).length=r.length:=by rw[Rw];exact g
 repeat' ((conv=>whnf);first|omega|refine zS ?_|refine zT ?_ ?_<;>intro _|fail)
 refine lD (A:=Nat) (λi=>mkSt [(3,I r.length),(6, .arr 45 0),(46,I r.length),(47,I i)] [] [(45,⟨0, .own,233,E.map sgV⟩)]) (λi=>i<=r.length/\∀i' k',i'<i->i'<k'->k'<r.length->cZ4 E r.length i' k') (λi=>r.length-i) 0 ?_ ⟨Aa,λi' k' hi=>Aa⟩ (λi hi=>?_);exact zj;obtain⟨hi,hap⟩:=hi;by_cases u:i<r.length
 ·repeat' ((conv=>whnf);first|omega|refine zS ?_|refine zT ?_ ?_<;>intro _|fail)
  refine lD (A:=Nat) (λk=>mkSt [(3,I r.length),(6, .arr 45 0),(46,I r.length),(47,I i),(7,I i),(8,I k)] [] [(45,⟨0, .own,233,E.map sgV⟩)]) (λk=>i<k/\k<=r.length/\∀k',i<k'->k'<k->cZ4 E r.length i k') (λk=>r.length-k) (i+1) ?_ ⟨Aa,Aa,λk' h1 h2=>Aa⟩ (λk b=>?_);exact zj;obtain⟨j,b,hin⟩:=b;by_cases a:k<r.length
  ·repeat' ((conv=>whnf);first|omega|refine dS rfl rfl FK ?_|refine dV6 (k:=i) Aa Aa ?_|refine dV6 (k:=k) Aa Aa ?_|refine zc (aS9 (E.getD i (z0,z0)) (E.getD k (z0,z0))) ?_|refine zS ?_|refine zT ?_ ?_<;>intro _|fail)
   all_goals conv=>whnf
   all_goals first
    |(refine aA (aC ?_);rw[d];intro h;exact absurd (h.2.2.2.2.2 i k j a Aa Aa) Ag)
    |skip
   all_goals
    refine⟨k+1,?_,⟨Aa,Aa,λk' h1 h2=>?_⟩,Aa⟩
    ·exact zj
    ·by_cases e:k'=k
     ·subst e
      intro C D;first|assumption|omega
     ·exact hin k' h1 Aa
  exact J5
 have n:i=r.length:=by omega
 subst n;repeat' ((conv=>whnf);first|omega|refine zS ?_|refine zT ?_ ?_<;>intro _|fail)
 all_goals conv=>whnf
 refine aA (fE ?_);rw[d];exact⟨h3,f,w,q,ht,λi k h1 h2=>hap i k Aa h1 h2⟩
def eA0(h:dM r):nG r=zY r:=QU h
def dX4(h:¬dM r):nG r=0:=Q9 h
def aX1 r(a:r.length<=1000000):Sp 66 [rgV r] (I (nG r)):=by
 refine zsp func66 ?_;have b:=eA0 (r:=r);have c:=dX4 (r:=r);generalize nG r=A at*;repeat' ((conv=>whnf);first|refine zc (lN r a) ?_|refine zc (bT2 r a) ?_|refine zS ?_|refine zT ?_ ?_<;>intro _|fail)
 all_goals conv=>whnf
 all_goals first
  |exact aG (c Ag).symm
  |exact aG (b Ag).symm
def cM0 p v:Sp 259 [vcV v, .fp (ptV p).cells] (vcV (toP p v)):=by
 refine zsp func259 ?_;exact Oq
theorem dT8:eqBB a b=true↔a=b:=by unfold eqBB;simp
def br_ll{A B}(c:(0<=a↔0<=b)->A)(d:¬(0<=a↔0<=b)->B):branch (eqBB (leB 0 a) (leB 0 b)) A B:=by
 have e:eqBB (leB 0 a) (leB 0 b)=true↔(0<=a↔0<=b):=by rw[dT8,TT,bV6,bV6]
 grind [jU]
def br_l2{A B}(c:(0<=a↔0<b)->A)(d:¬(0<=a↔0<b)->B):branch (eqBB (leB 0 a) (ltB 0 b)) A B:=by
 have e:eqBB (leB 0 a) (ltB 0 b)=true↔(0<=a↔0<b):=by rw[dT8,TT,bV6,dC8]
 grind [jU]
theorem qB p:∀b,lU p [] b=if b=true then 2 else 0:=λb=>by unfold lU;rfl
theorem oP(h:onE p e):lU p (e::es) b=1:=by
 rw[lU,QU h]
theorem rE(h:¬onE p e)(a:rW p e):lU p (e::es) b=lU p es (!b):=by
 rw[lU,Q9 h,QU a]
theorem jD(h:¬onE p e)(a:¬rW p e):lU p (e::es) b=lU p es b:=by
 rw[lU,Q9 h,Q9 a]
theorem eA4(h:¬dM r\/¬wJ p):iF r p=0:=Q9 (λq=>by rcases h with h|h<;>simp_all)
theorem aD9(h:dM r)(a:wJ p):iF r p=lU p (bF r) false:=QU ⟨h,a⟩
def aB7 r p(s:r.length<=1000000):Sp 206 [rgV r,ptV p] (I (iF r p)):=by
 refine zsp func206 ?_;have m:=eA4 (r:=r) (p:=p);have n:=aD9 (r:=r) (p:=p);have g:=qE r s;generalize iF r p=A at*;generalize o:bF r=E at*;repeat' ((conv=>whnf);first|refine zc (lN r s) ?_|refine zc (bW9 p) ?_|refine zc g ?_|refine zS ?_|refine zT ?_ ?_<;>intro _|fail)
 all_goals conv=>whnf
 all_goals first
  |exact aG (m He).symm
  |skip
 have y:=n Ag Ag;clear m n
 have z:E.length<=1000000:=by
  rw[<-o];unfold bF;split<;>simp;omega
 clear o g;refine oU (A:=List Sg) (B:=List Sg) (C:=Bool) (λD R b=>mkSt [(5, .fn 259 [.fp (ptV p).cells]),(6, .lit (.bool b)),(23, .arr 23 0),(24,I E.length),(25,I D.length)] [] [(23,⟨0, .own,233,E.map sgV⟩)]) (λD R b=>E=D++R/\A=lU p R b) (λD R b=>R.length) [] E false ?_ ⟨rfl,y⟩ (λD R b hp=>?_);exact Jb;obtain⟨hp,k⟩:=hp;cases R with
 |nil=>
  have j:E.length=D.length:=Ae;rw[qB]at k;repeat' ((conv=>whnf);first|omega|refine zS ?_|refine zT ?_ ?_<;>intro _|fail)
  all_goals conv=>whnf
  all_goals exact aG (by rw[k];simp[*])
 |cons e R=>
  have j:=aO hp;have u:=oP (p:=p) (e:=e) (es:=R) (b:=b);have v:=rE (p:=p) (e:=e) (es:=R) (b:=b);have w:=jD (p:=p) (e:=e) (es:=R) (b:=b);rw[<-k]at u v w;have H:=kD (vsub e.2 e.1) (toP p e.1);have d:onE p e↔bZ (vsub e.2 e.1) (toP p e.1)=0/\_:=RU;have i:rW p e↔¬(0<=(toP p e.1).2↔0<=(toP p e.2).2)/\(0<=(toP p e.1).2↔0<bZ (vsub e.2 e.1) (toP p e.1)):=RU;simp only[<-lH,<-mG]at d;generalize bZ (vsub e.2 e.1) (toP p e.1)=t at*;have F:=cM0 p e.1;have G:=cM0 p e.2;generalize toP p e.1=a at*;generalize toP p e.2=c at*;repeat' ((conv=>whnf);first|omega|refine dS rfl rfl (by show 0<=_/\_< ((E.map sgV).length:Int);rw[Rw];omega) ?_|refine aF (l:=E) (A:=D) (x:=e) (B:=R) hp Aa ?_|refine zc F ?_|refine zc G ?_|refine zc (fF e.2 e.1) ?_|refine zc H ?_|refine br_ll (λf=>?_) (λf=>?_)|refine br_l2 (λf=>?_) (λf=>?_)|refine zS ?_|refine zT ?_ ?_<;>intro _|fail)
  all_goals conv=>whnf
  all_goals first
   |exact aG (u (d.2 ⟨Aa,Aa,Aa,Aa,Aa⟩)).symm
   |skip
  all_goals
   first
   |(refine⟨(D++[e],R, !b),?_,⟨Ae,v (λq=>by have q:=d.1 q;omega) (i.2 ⟨Ag,Ag⟩)⟩,Ad⟩)
   |(refine⟨(D++[e],R,b),?_,⟨Ae,w (λq=>by have q:=d.1 q;omega) (λq=>by obtain⟨J,K⟩:=i.1 q;contradiction)⟩,Ad⟩)
   exact Nh
theorem aC1(h:within v 4000):fJ r v=iF r (v.1,v.2,1):=QU h
def eA7(h:¬within v 4000):fJ r v=0:=Q9 h
def cL0 r v(c:r.length<=1000000):Sp 164 [rgV r,vcV v] (I (fJ r v)):=by
 refine zsp func164 ?_;have a:=aC1 (r:=r) (v:=v);have b:=eA7 (r:=r) (v:=v);generalize fJ r v=A at*;repeat' ((conv=>whnf);first|refine zc (kC v 4000) ?_|refine zc (zN v) ?_|refine zc (aB7 r (v.1,v.2,1) c) ?_|refine zS ?_|refine zT ?_ ?_<;>intro _|fail)
 all_goals conv=>whnf
 all_goals first
  |exact aG (b Ag).symm
  |exact aG (a Ag).symm
open Classical in
def boxR(r:Rg):Bx×Bool:=if dM r then aC7 r else(((0,0),(0,0)),false)
def dX3(h:dM r):boxR r=aC7 r:=QU h
def eX2(h:¬dM r):boxR r=(((0,0),(0,0)),false):=Q9 h
def dL2 r(b:r.length<=1000000):Sp 187 [rgV r] (.tup [bxV (boxR r).1, .lit (.bool (boxR r).2)]):=by
 refine zsp func187 ?_;have c:=dX3 (r:=r);have d:=eX2 (r:=r);have e:=bI9 r b;generalize boxR r=A at*;generalize aC7 r=B at*;repeat' ((conv=>whnf);first|refine zc (lN r b) ?_|refine zS ?_|refine zd (λa=>?_) (λa=>?_))
 ·rw[c a]
  all_goals exact zE
 rw[d a];all_goals exact zE
def eL0{r:Rg}(h:k<r.length):r.take (k+1)=r.take k++[r.getD k z0] :=by
 rw[U2,getD_some h];rfl
def eA2 a b(g:a.length<=1000000)(i:b.length<=1000000):Sp 275 [rgV a,rgV b] (DB (a=b)):=by
 refine zsp func275 ?_;have e:(a.map vcV).length=a.length:=Ad;have f:(b.map vcV).length=b.length:=Ad;repeat' ((conv=>whnf);first|refine zS ?_|refine zT ?_ ?_<;>intro _|fail)
 all_goals conv=>whnf
 all_goals first
  |(refine aA (aC ?_);intro h;subst h;omega)
  |skip
 have hab:a.length=b.length:=Aa;refine lD (A:=Nat) (λk=>mkSt [(0,rgV a),(1,rgV b),(11,rgV a),(12,I a.length),(13,I k)] [] []) (λk=>k<=a.length/\a.take k=b.take k) (λk=>a.length-k) 0 ?_ ⟨Aa,rfl⟩ (λk c=>?_);exact zj;obtain⟨c,ht⟩:=c;by_cases d:k<a.length
 ·repeat' ((conv=>whnf);first|omega|refine aU3 (r:=a) (k:=k) Aa Aa ?_|refine aU3 (r:=b) (k:=k) Aa Aa ?_|refine aT1 ?_|refine aB4 (λhv=>?_) (λhv=>?_)|refine zS ?_|refine zT ?_ ?_<;>intro _|fail)
  all_goals conv=>whnf
  refine⟨k+1,?_,⟨Aa,?_⟩,Aa⟩;exact zj;rw[eL0 Aa,eL0 Aa,ht,hv];refine aA (aC ?_);intro h;subst h;exact hv rfl
 have ek:k=a.length:=by omega
 repeat' ((conv=>whnf);first|omega|refine zS ?_|refine zT ?_ ?_<;>intro _|fail)
 all_goals conv=>whnf
 exact Qb
theorem wF m x l:sQ m (x::l)=sQ (open Classical in if kF x m then x else m) l:=by rw[sQ]
def cL6(r:Rg)(j:r.length<=1000000)(e:r≠ []):Sp 276 [rgV r, .fn 236 []] (vcV (wO r)):=by
 refine zsp func276 ?_;have g:(r.map vcV).length=r.length:=Ad;have f:1<=r.length:=by cases r with|nil=>exact absurd rfl e|cons x l=>simp
 obtain⟨x,l,d⟩:∃x l,r=x::l:=by cases r with|nil=>exact absurd rfl e|cons x l=>exact⟨x,l,rfl⟩
 have c:wO r=sQ x l:=by rw[d];rfl
 repeat' ((conv=>whnf);first|omega|refine aF (l:=r) (A:=[]) (x:=x) (B:=l) d rfl ?_|refine zS ?_|refine zl (λhlt=>?_) (λhlt=>?_))
 refine oU (A:=List Vc) (B:=List Vc) (C:=Vc) (λD R m=>mkSt [(0,rgV r),(1, .fn 236 []),(4, .box 4 0),(5, .box 5 0),(6,I D.length)] [(4,[I 0,I 0]),(5,(vcV m).cells)] []) (λD R m=>r=D++R/\wO r=sQ m R/\1<=D.length) (λD R m=>R.length) [x] l x ?_ ⟨d,c,Ad⟩ (λD R m hp=>?_);exact zj;let⟨hp,b,i⟩:=hp;cases R with
 |nil=>
  have a:r.length=D.length:=Ae;rw[b];exact NI
 |cons y R=>
  have a:=aO hp;rw[wF]at b;repeat' ((conv=>whnf);first|omega|refine zc (qI y m) ?_|refine zS ?_|refine zl (λhlt=>?_) (λhlt=>?_))
  all_goals conv=>whnf
  refine⟨(D++[y],R,y),?_,⟨Ae,by rw[b,QU (show kF y m from hlt)],Ad⟩,Ad⟩;exact Nh;refine⟨(D++[y],R,m),?_,⟨Ae,by rw[b,Q9 (show¬kF y m by unfold kF;omega)],Ad⟩,Ad⟩;exact Nh
def bZ1(v:Vc)(r:Rg):Int:=match sN v r 0 with|some j=>j|none=> -1
def cJ4 r v(d:r.length<=1000000):Sp 277 [rgV r,vcV v] (I (bZ1 v r)):=by
 refine zsp func277 ?_;have c:(r.map vcV).length=r.length:=Ad;unfold bZ1;repeat' ((conv=>whnf);first|refine zS ?_|fail)
 refine aU (A:=List Vc) (B:=List Vc) (λD R=>mkSt [(0,rgV r),(3, .box 3 0),(6,rgV r),(7,I r.length),(8,I D.length)] [(3,(vcV v).cells)] []) (λD R=>r=D++R/\sN v r 0=sN v R D.length) (λD R=>R.length) [] r ?_ ⟨rfl,rfl⟩ (λD R hp=>?_);exact zj;obtain⟨hp,b⟩:=hp;cases R with
 |nil=>
  have a:r.length=D.length:=Ae;repeat' ((conv=>whnf);first|omega|refine zS ?_|refine zT ?_ ?_<;>intro _|fail)
  all_goals conv=>whnf
  exact aG (by rw[b];rfl)
 |cons y R=>
  have a:=aO hp;rw[sN]at b;repeat' ((conv=>whnf);first|omega|refine aT1 ?_|refine aB4 (λhv=>?_) (λhv=>?_)|refine zS ?_|refine zT ?_ ?_<;>intro _|fail)
  all_goals conv=>whnf
  exact aG (by rw[b,QU hv]);rw[Q9 hv]at b;refine⟨(D++[y],R),?_,⟨Ae,by rw[b];simp⟩,Ad⟩;exact Nh
def fB6(f:∀m,Sp g (vcV m:: [.fp c, .fp d]) (DB (Q m))) l(k:l.length<=1000000):fnVC T Tryz.prog Tryz.f205 [.sl (l.map vcV), .fn g [.fp c, .fp d]] (I (fstI Q l)):=by
 have i:(l.map vcV).length=l.length:=Ad;repeat' ((conv=>whnf);first|refine zS ?_|fail)
 refine aU (A:=List Vc) (B:=List Vc) (λD R=>mkSt [(0, .sl (l.map vcV)),(1, .fn g [.fp c, .fp d]),(7,I l.length),(8,I D.length)] [] [])
  (λD R=>l=D++R/\∀m∈D,¬Q m) (λD R=>R.length) [] l ?_ ⟨rfl,Ad⟩ (λD R j=>?_)
 exact zj;let⟨h1,h2⟩:=j;have a:l.length=D.length+R.length:=Bo;have hD:∀y∈D,(!decB (Q y))=true:=λy hy=>Ce;cases R with
 |nil=>
  have e:l=D:=Bo;simp at a;repeat' ((conv=>whnf);first|omega|refine zS ?_|refine zl (λb=>?_) (λb=>?_))
  exact QI
 |cons x R=>
  rw[Ro]at a;repeat' ((conv=>whnf);first|omega|refine aF (l:=l) (A:=D) (x:=x) (B:=R) h1 Aa ?_|refine zc (f x) ?_|refine zS ?_|refine zd (λhd=>?_) (λhd=>?_)|refine zl (λb=>?_) (λb=>?_))
  exact Je;exact IL
def eH6(a:∀m,Sp g (vcV m:: [.fp c, .fp d]) (DB (Q m))) l(b:l.length<=1000000):Sp 205 [.sl (l.map vcV), .fn g [.fp c, .fp d]] (I (fstI Q l)):=zsp func205 (fB6 a l b)
def fB1{Q:Vc->Prop}(a:∀m,Sp g (vcV m:: [.fp c, .fp d]) (DB (Q m)))(l:List Vc)(b:l.length<=1000000):fnVC T Tryz.prog Tryz.f162 [.sl (l.map vcV), .fn g [.fp c, .fp d]] (DB (∃m∈l,Q m)):=by
 repeat' ((conv=>whnf);first|refine zc (eH6 a l b) ?_|refine zS ?_|fail)
 exact Np
def eC1{Q:Vc->Prop}(a:∀m,Sp g (vcV m:: [.fp c, .fp d]) (DB (Q m)))(l:List Vc)(b:l.length<=1000000):Sp 162 [.sl (l.map vcV), .fn g [.fp c, .fp d]] (DB (∃m∈l,Q m)):=zsp func162 (fB1 a l b)
def dR4 b n(a:b.length<=1000000) v:Sp 163 [vcV v, .fp [rgV b], .fp [I n]] (DB (¬fJ b v=n)):=by
 refine zsp func163 ?_;repeat' ((conv=>whnf);first|refine zc (cL0 b v a) ?_|refine zS ?_|fail)
 all_goals conv=>whnf
 all_goals refine aA (aF6 ?_)
 all_goals exact dY0
def tX r b n(c:r.length<=1000000)(a:b.length<=1000000):Sp 108 [rgV r,rgV b,I n] (DB (pR r b n)):=by
 refine zsp func108 ?_;repeat' ((conv=>whnf);first|refine zc (eC1 (λv=>dR4 b n a v) r c) ?_|refine zS ?_|fail)
 all_goals conv=>whnf
 all_goals refine aA (aF6 ?_)
 rw[dW];unfold pR;constructor;intro h v hv;exact QK;rintro h ⟨v,hv,hn⟩;exact hn (h v hv)
def aK9(h:r.length<=1000000):(bF r).length<=1000000:=by
 unfold bF;split<;>simp;omega
def vS a b(g:a.length<=1000000)(i:b.length<=1000000):Sp 109 [rgV a,rgV b] (DB (uV a b)):=by
 refine zsp func109 ?_;have d:=qE a g;have e:=qE b i;have j:=aK9 g;have k:=aK9 i;generalize hP:uV a b=P;have f:P↔uV a b:=GZ;unfold uV at f;generalize bF a=A at*;generalize bF b=B at*;repeat' ((conv=>whnf);first|refine zc d ?_|refine zS ?_|fail)
 refine aU (A:=List Sg) (B:=List Sg) (λD R=>mkSt [(1,rgV b),(10, .arr 10 0),(11,I A.length),(12,I D.length)] [] [(10,⟨0, .own,233,A.map sgV⟩)]) (λD R=>A=D++R/\∀x∈D,∀y∈B,dG x y=0) (λD R=>R.length) [] A ?_ ⟨rfl,Ad⟩ (λD R hp=>?_);exact Jb;let⟨hp,hD⟩:=hp;cases R with
 |nil=>
  have c:A.length=D.length:=Ae;repeat' ((conv=>whnf);first|omega|refine zS ?_|refine zT ?_ ?_<;>intro _|fail)
  all_goals conv=>whnf
  refine aA (fE (f.2 ?_));rw[hp,Rq];exact hD
 |cons x R=>
  have c:=aO hp;repeat' ((conv=>whnf);first|omega|refine dS rfl rfl D5 ?_|refine aF (l:=A) (A:=D) (x:=x) (B:=R) hp Aa ?_|refine zc e ?_|refine zS ?_|refine zT ?_ ?_<;>intro _|fail)
  refine aU (A:=List Sg) (B:=List Sg) (λE S=>mkSt [(1,rgV b),(6, .box 6 0),(10, .arr 10 0),(11,I A.length),(12,I D.length),(17, .arr 17 0),(18,I B.length),(19,I E.length)] [(6,(sgV x).cells)] [(10,⟨0, .own,233,A.map sgV⟩),(17,⟨0, .own,233,B.map sgV⟩)]) (λE S=>B=E++S/\∀y∈E,dG x y=0) (λE S=>S.length) [] B ?_ ⟨rfl,Ad⟩ (λE S hq=>?_);exact Jb;let⟨hq,hE⟩:=hq;cases S with
  |nil=>exact MX
  |cons y S=>
   have hlen2:=aO hq;repeat' ((conv=>whnf);first|omega|refine dS rfl rfl D6 ?_|refine aF (l:=B) (A:=E) (x:=y) (B:=S) hq Aa ?_|refine zc (aS9 x y) ?_|refine zS ?_|refine zT ?_ ?_<;>intro _|fail)
   all_goals conv=>whnf
   all_goals first
    |(refine aA (aC ?_);rw[f];intro h;exact absurd (h x Ae y Au) Ag)
    |skip
   exact Qj
def eE1{T:Tab}{σ:St}{x:ItC}{k:Option Nat}{Q:ItQ}{A B:Type}(st:A->B->St)(g:A->B->Option Nat)(inv:A->B->Prop)(m:A->B->Nat)(d:A)(f:B)(j:Le T σ (st d f))(l:inv d f)(n:g d f=k)(h:∀a b,inv a b->x (g a b) (st a b) λe i c=>match e with
 | .normal=>∃p':A×B,Le T c (st p'.1 p'.2)/\inv p'.1 p'.2/\g p'.1 p'.2=i/\m p'.1 p'.2<m a b
 |e=>Q e i c):bX4 T x k σ Q:=
 eD4 (A:=A×B) (λp=>st p.1 p.2) (λp=>g p.1 p.2) (λp=>inv p.1 p.2) (λp=>m p.1 p.2) (d,f) j l n (λp o=>h p.1 p.2 o)
def iI(s:Sh):List (List V):=(rings s).map λr=> [rgV r]
def eE3 s:(iI s)[0]? =some [rgV s.outer] :=rfl
def dK1(a:s.holes=D++h::R):(iI s)[D.length+1]? =some [rgV h] :=by
 unfold iI rings;rw[RN,SE,a];simp
def dD3 r:bM [rgV r] :=by
 refine aH.2 (λy a=>?_);rw[Ri.1 a];unfold rgV;simp[V.ok];exact aH.2 (λz b=>by obtain⟨v,_,rfl⟩:=Rn.1 b;simp[vcV,I,V.ok,V.okL])
def dW4 s(d:s.holes.length<=1000000):itVC T Tryz.prog Tryz.f111 [.fp (shV s).cells] (iI s):=by
 intro l;have b:(iI s).length=s.holes.length+1:=by unfold iI rings;simp
 repeat' ((conv=>whnf);first|refine cD0 ?_|refine dE2 (eE3 s) (dD3 _) ?_ ?_|refine zS ?_|fail)
 all_goals conv=>whnf
 all_goals first
  |exact trivial
  |skip
 refine eE1 (A:=List Rg) (B:=List Rg) (λD R=>mkSt [(0, .lit (.func (.yield l) ⟨[]⟩ ⟨[]⟩)),(1, .fp (shV s).cells),(11, .sl (s.holes.map rgV)),(12,I s.holes.length),(13,I D.length)] [] []) (λD R=>some (D.length+1)) (λD R=>s.holes=D++R) (λD R=>R.length) [] s.holes ?_ rfl rfl (λD R hp=>?_);exact IZ;have c:(s.holes.map rgV).length=s.holes.length:=Ad;cases R with
 |nil=>
  have a:s.holes.length=D.length:=Ae;repeat' ((conv=>whnf);first|(exfalso;omega)|refine cD0 ?_|refine zT ?_ ?_<;>intro _|refine zS ?_|fail)
  all_goals conv=>whnf
  show D.length+1=(iI s).length;omega
 |cons h R=>
  have a:=aO hp;repeat' ((conv=>whnf);first|(exfalso;omega)|refine cD0 ?_|refine dE2 (dK1 hp) (dD3 _) ?_ ?_|refine zS ?_|refine zT ?_ ?_<;>intro _|fail)
  all_goals conv=>whnf
  all_goals first
   |exact trivial
   |skip
  refine⟨(D++[h],R),?_,Ae,Ad,Ad⟩;exact Nh
def vJ s(a:s.holes.length<=1000000):aB0 T Tryz.prog 111 [.fp (shV s).cells] (iI s):=
 dZ5 uG mixed func111 Ac (Uc Ac) Ac (dW4 s a)
def rQ s:Sp 67 [shV s] (.fn 111 [.fp (shV s).cells]):=by
 refine zsp func67 ?_;repeat' ((conv=>whnf);first|refine zS ?_|fail)
 all_goals conv=>whnf
 exact⟨by(repeat' (first|exact trivial|refine And.intro ?_ ?_|with_reducible rfl|exact(λh=>Ah)|exact rfl));done,rfl,λrs h=>V.noConfusion h⟩
end Go.Proofs.Led
