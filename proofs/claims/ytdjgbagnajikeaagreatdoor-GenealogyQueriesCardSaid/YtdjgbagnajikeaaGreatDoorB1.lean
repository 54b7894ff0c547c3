/-
  The functions of the ledger, walked: the table of types, values, comparisons.
-/
import Derived.Test.YtdjgbagnajikeaaGreatDoorA14
import Derived.Test.YtdjgbagnajikeaaGreatDoorProg
import Derived.Laws.StructEq
import Derived.WideShapes
import Derived.Lib.ItoaNum
set_option linter.unusedVariables false
set_option linter.unusedSimpArgs false
set_option maxRecDepth 100000
set_option maxHeartbeats 4000000
noncomputable section
namespace Go.Proofs.Led
open Go Go.Proofs Go.Ab
structure LayP(w:World)(F:Nat->Prop):Prop where
 p10:F 0/\∃t z,w.heap[0]? =some (.cells (Lib.pow10Tab.map (Value.int .u64)).toArray t z)
theorem layP_mono{w w':World}{F F':Nat->Prop}(h:∀b,F b->F' b/\w'.heap[b]? =w.heap[b]?)(l:LayP w F):LayP w' F':=
 ⟨⟨(h _ l.p10.1).1,by rw[(h _ l.p10.1).2];exact l.p10.2⟩⟩
def T:Tab:=eD6 Tryz.prog 390 [0,27,32,39,52,54,60,62,72,87,109,117,121,126,143,180,182,199,208,227,230,239,256,261,325,361,376] LayP layP_mono [104,46]
theorem uG:bP T Tryz.prog:=dM2 Ac
theorem mixed:Tryz.prog.follows .mixedOrders=true:=Ac
abbrev Sp(f:FuncId)(ys:List V)(r:V):Prop:=Go.Ab.Spec T Tryz.prog f ys r
theorem dR{f:FuncId}{fn:Func}{ys:List V}{r:V}(hf:Tryz.prog.funcs[f]? =some fn)(hc:callable Tryz.prog f=true)(hn:Nat.ble ys.length fn.ntmps=true)(h:fnVC T Tryz.prog fn ys r):Sp f ys r:=
 eH1 uG mixed hf hc (Nat.le_of_ble_eq_true hn) h
abbrev SpIO(f:FuncId)(ys:List V)(r:V)(e:TypeId)(l:List V):Prop:=bE5 T Tryz.prog f ys r 0 e l
theorem eH7{f:FuncId}{fn:Func}{y:V}{ys:List V}{r:V}{e:TypeId}{l l':List V}(hy:y= .own e l)(hf:Tryz.prog.funcs[f]? =some fn)(hc:callable Tryz.prog f=true)(hn:Nat.ble (y::ys).length fn.ntmps=true)(h:fnIO T Tryz.prog fn (y::ys) r 0 e l'):SpIO f (y::ys) r e l':=
 cE4 uG mixed hf hc (Nat.le_of_ble_eq_true hn) Ah (by rw[hy];rfl) h
abbrev SpB(f:FuncId)(ys:List V)(bs:List (List V))(r:V)(bs':List (List V)):Prop:=aU2 T Tryz.prog f ys bs r bs'
theorem b_of{f:FuncId}{fn:Func}{ys:List V}{bs:List (List V)}{r:V}{bs':List (List V)}(hf:Tryz.prog.funcs[f]? =some fn)(hc:callable Tryz.prog f=true)(hn:(Nat.ble ys.length fn.ntmps&&Nat.blt fn.ntmps 100000)=true)(hb:(Nat.ble bs.length 8&&bs.all fun b=>Nat.blt b.length 100000)=true)(hl:bs'.map List.length=bs.map List.length)(h:jR T Tryz.prog fn ys bs r bs'):SpB f ys bs r bs':=by
 rw[Bool.and_eq_true]at hn hb;exact dP3 uG mixed hf hc (Nat.le_of_ble_eq_true hn.1) (blt hn.2) (Nat.le_of_ble_eq_true hb.1) (fun b hb'=>blt (List.all_eq_true.1 hb.2 b hb')) hl h
theorem rb_of{w:World}{G:Gh}{j:Nat}{v:Value}{y:V}(h:RbB T w G 0 j v y):Rb T w G j v y:=by
 unfold RbB at h;unfold Rb;split at h
 ·exact h
 ·exact h
 ·refine⟨V.ok.imp (fun i hi=>Aa) (fun _ _ h=>h) _ h.1,h.2⟩
theorem dU1{w:World}{G:Gh}{j:Nat}{v:Value}{y:V}(h:Rb T w G j v y):RbB T w G 0 j v y:=by
 unfold Rb at h;unfold RbB;split at h
 ·exact h
 ·exact h
 ·refine⟨V.ok.imp (fun i hi=>hi.elim) (fun _ _ h=>h) _ h.1,h.2⟩
def gJ7(r:V):Bool:=match r with| .tup (.bot::_)=>false|_=>true
theorem xX{f:FuncId}{ys:List V}{r:V}(h:Sp f ys r)(hm:gJ7 r=true:=by rfl):aU2 T Tryz.prog f ys [] r [] :=by
 refine⟨h.1,rfl,fun w G cs h1 h2 h3 h4 h5 h6=>(h.2 w G cs h1 h2 ?_ ?_ h6).mono ?_⟩
 ·intro b i hb
  have:=(h3 b i hb).2.1;have:=(h3 b i hb).1
  simp at*;omega
 ·intro j v y q1 q2
  exact rb_of (h5 j v y q1 q2)
 ·rintro e w' ⟨v,G',rfl,hr,a1,a2,a3,a4,a5,a6,a7,a8,a9⟩
  refine⟨v,G',rfl,?_,(fun i b hb=>by simp at hb),(fun i hi=>absurd hi (Nat.not_lt_zero _)),a1,a2,(fun b hb=>?_),(fun b hb q _=>a5 b hb q),a6,a7,a8,a9⟩
  ·unfold Rr at hr
   unfold RrB;split at hr
   ·exact Bool.noConfusion (show false=true from hm)
   ·obtain⟨vs,q1,q2,q3⟩:=hr
    exact⟨vs,q1,q2,fun j u y q4 q5=>dU1 (q3 j u y q4 q5)⟩
   ·rename_i hnt
    split
    ·exact absurd rfl (hnt _)
    ·exact dU1 hr
  ·rcases a4 b hb with q|q|q
   ·exact .inl q
   ·exact .inr (.inl q)
   ·exact .inr (.inr (.inl q))
def I(n:Int):V:= .lit (.int .i64 n)
def U(n:Int):V:= .lit (.int .u8 n)
def S(s:ByteArray):V:= .lit (.string s)
abbrev aI:ByteArray:={data:= #[]}
abbrev nilV:V:= .lit (.slice none 0 0)
abbrev W(n:Int):Int:=IntKind.i64.wrap n
theorem nT(n:Int): -9223372036854775808<=W n/\W n<=9223372036854775807:=by
 simp[IntKind.wrap,IntKind.signed,IntKind.bits];split<;>omega
theorem w_in{n:Int}(h: -9223372036854775808<=n/\n<=9223372036854775807):W n=n:=IntWalk.i64_in _ Aa
@[irreducible] def decB(p:Prop):Bool:= @decide p (Classical.propDecidable p)
abbrev DB(p:Prop):V:= .lit (.bool (decB p))
theorem dH{p:Prop}:decB p=true↔p:=by unfold decB;simp
theorem dW{p:Prop}:decB p=false↔¬p:=by unfold decB;simp
theorem eZ0{p A B:Prop}(h1:p->A)(h2:¬p->B):branch (decB p) A B:=jU (fun h=>h1 (dH.1 h)) (fun h=>h2 (dW.1 h))
theorem fE{p:Prop}(h:p):true=decB p:=(dH.2 h).symm
theorem aC{p:Prop}(h:¬p):false=decB p:=(dW.2 h).symm
theorem aS1{a b:Int}{p:Prop}(h:a<b↔p):ltB a b=decB p:=Bool.eq_iff_iff.2 (by rw[dC8,dH];exact h)
theorem le_dec{a b:Int}{p:Prop}(h:a<=b↔p):leB a b=decB p:=Bool.eq_iff_iff.2 (by rw[bV6,dH];exact h)
theorem sK{a b:Int}{p:Prop}(h:a=b↔p):eqB a b=decB p:=Bool.eq_iff_iff.2 (by rw[aA1,dH];exact h)
theorem aF6{b:Bool}{p:Prop}(h:b=false↔p):(!b)=decB p:=Bool.eq_iff_iff.2 (by rw[dH,<-h];cases b<;>simp)
theorem fQ{p q:Prop}(h:p↔q):decB p=decB q:=Bool.eq_iff_iff.2 (by rw[dH,dH];exact h)
theorem eqB_d{a b:Int}:eqB a b=decB (a=b):=sK Iff.rfl
theorem eU2{a b:Int}:ltB a b=decB (a<b):=aS1 Iff.rfl
theorem eG4{a b:ByteArray}:eqS a b=true↔a=b:=by
 unfold eqS;rw[beq_iff_eq,ByteArray.toList_eq,ByteArray.toList_eq];exact⟨WideShapes.bytes_inj,fun h=>by rw[h]⟩
theorem eqS_f{a b:ByteArray}:eqS a b=false↔a≠b:=by rw[<-Bool.not_eq_true,eG4]
theorem jI{a b:ByteArray}{A B:Prop}(h1:a=b->A)(h2:a≠b->B):branch (eqS a b) A B:=jU (fun h=>h1 (eG4.1 h)) (fun h=>h2 (eqS_f.1 h))
theorem qV{a b:ByteArray}{p:Prop}(h:a=b↔p):eqS a b=decB p:=Bool.eq_iff_iff.2 (by rw[eG4,dH];exact h)
theorem dE9{a b:Bool}:andB a b=true↔a=true/\b=true:=by rw[eQ7,Bool.and_eq_true]
theorem aA{ar:Nat->Option AE}{b:Bool}{p:Prop}(h:b=decB p):iQ T ar [.lit (.bool (decB p))] [.lit (.bool b)]/\iR [.lit (.bool b)] [.lit (.bool (decB p))] =true/\(∀rs,(V.lit (.bool (decB p)))≠ .tup rs):=aK h
theorem bW7{n:Int}{K:Int->Prop}(hk:K (W n)):arith .i64 n K:=⟨hk⟩
theorem fK{k:IntKind}{n m:Int}{K:Int->Prop}(h:k.wrap n=m)(hk:K m):arith k n K:=⟨by rw[h];exact hk⟩
theorem aU{T:Tab}{σ:St}{x:aA2}{Q:Exit->St->Prop}{A B:Type}(st:A->B->St)(inv:A->B->Prop)(m:A->B->Nat)(a0:A)(b0:B)(h0:Le T σ (st a0 b0))(h1:inv a0 b0)(h:∀a b,inv a b->x (st a b) fun e σ'=>match e with
 | .normal=>∃p':A×B,Le T σ' (st p'.1 p'.2)/\inv p'.1 p'.2/\m p'.1 p'.2<m a b
 |e=>Q e σ'):bI0 T x σ Q:=
 lD (A:=A×B) (fun p=>st p.1 p.2) (fun p=>inv p.1 p.2) (fun p=>m p.1 p.2) (a0,b0) h0 h1 (fun p hp=>h p.1 p.2 hp)
theorem oU{T:Tab}{σ:St}{x:aA2}{Q:Exit->St->Prop}{A B C:Type}(st:A->B->C->St)(inv:A->B->C->Prop)(m:A->B->C->Nat)(a0:A)(b0:B)(c0:C)(h0:Le T σ (st a0 b0 c0))(h1:inv a0 b0 c0)(h:∀a b c,inv a b c->x (st a b c) fun e σ'=>match e with
 | .normal=>∃p':A×B×C,Le T σ' (st p'.1 p'.2.1 p'.2.2)/\inv p'.1 p'.2.1 p'.2.2/\m p'.1 p'.2.1 p'.2.2<m a b c
 |e=>Q e σ'):bI0 T x σ Q:=
 lD (A:=A×B×C) (fun p=>st p.1 p.2.1 p.2.2) (fun p=>inv p.1 p.2.1 p.2.2) (fun p=>m p.1 p.2.1 p.2.2) (a0,b0,c0) h0 h1 (fun p hp=>h p.1 p.2.1 p.2.2 hp)
theorem aF{α:Type}{f:α->V}{l A B:List α}{x:α}{i:Nat}{K:V->Prop}(h:l=A++x::B)(hi:i=A.length)(hk:K (f x)):idx (l.map f) i K:=by
 subst h hi;exact dE3 _ Ae hk
theorem gK{α:Type}{f:α->V}{l:List α}{i j:Nat}{x:α}{K:V->Prop}(h:l[j]? =some x)(hi:i=j)(hk:K (f x)):idx (l.map f) i K:=by
 subst hi;exact dE3 _ (by rw[List.getElem?_map,h];rfl) hk
theorem aB{α:Type}{f:α->V}{l:List α}{z:Int}{K:Prop}(h:0<=z/\z<l.length)(hk:K):need (0<=z/\z< (l.map f).length) K:=fU ⟨h.1,by rw[List.length_map];exact h.2⟩ hk
theorem cK2{s:ByteArray}{z:Int}{K:Prop}(h:0<=z/\z<s.size)(hk:K):need (0<=z/\z< (s.size:Int)) K:=fU h hk
theorem dJ7{s:ByteArray}:s.size=0↔s={data:= #[]}:=by
 obtain⟨a⟩:=s;constructor
 ·intro h
  have:a= #[] :=Array.eq_empty_of_size_eq_zero h;rw[this]
 ·intro h;rw[h];rfl
theorem eT0{α:Type}{f:α->V}{l:List α}:(l.map f).length=l.length:=Ae
theorem aO{α:Type}{l A B:List α}{x:α}(h:l=A++x::B):l.length=A.length+B.length+1:=by rw[h];simp;omega
def fst{α:Type}(Q:α->Prop)(l:List α):Nat:=(l.takeWhile fun m=> !decB (Q m)).length
def fstI{α:Type}(Q:α->Prop)(l:List α):Int:=if fst Q l<l.length then fst Q l else-1
theorem wH{α:Type}{p:α->Bool}{D R:List α}{x:α}(h:∀y∈D,p y=true)(hx:p x=false):((D++x::R).takeWhile p).length=D.length:=by
 induction D with
 |nil=>simp[List.takeWhile,hx]
 |cons d D ih=>rw[List.cons_append,List.takeWhile_cons,if_pos (h d Ae),List.length_cons,ih (fun y hy=>h y FY),List.length_cons]
theorem fC3{α:Type}{p:α->Bool}{D:List α}(h:∀y∈D,p y=true):(D.takeWhile p).length=D.length:=by
 induction D with
 |nil=>rfl
 |cons d D ih=>rw[List.takeWhile_cons,if_pos (h d Ae),List.length_cons,ih (fun y hy=>h y FY),List.length_cons]
theorem iO{α:Type}{Q:α->Prop}{l:List α}:¬fst Q l<l.length↔∀m∈l,¬Q m:=by
 unfold fst;constructor
 ·intro h m hm hq
  apply h;clear h
  induction l with
  |nil=>simp at hm
  |cons x l ih=>
   rw[List.takeWhile_cons];split
   ·rename_i hx
    rcases List.mem_cons.1 hm with rfl|hm
    ·rw[dH.2 hq]at hx;simp at hx
    ·have:=ih hm
     rw[List.length_cons,List.length_cons];omega
   ·simp
 ·intro h
  rw[fC3 (fun y hy=>by rw[dW.2 (h y hy)];rfl)]
  omega
abbrev zg:= @eY7
abbrev zw:= @bW7
abbrev zn:= @eZ2
abbrev zd:= @eZ0
abbrev zl:= @br_lt
abbrev zk:= @br_le
abbrev ze:= @eV7
abbrev zb:= @jU
abbrev zr:= @ret_i
abbrev zq:= @fA7
class Bc (b:Bool) (p q:outParam Prop):Prop where
 t:b=true->p
 f:b=false->q
instance{p:Prop}:Bc (decB p) p (¬p):=⟨dH.1,dW.1⟩
instance{a b:Int}:Bc (ltB a b) (a<b) (b<=a):=⟨dC8.1,eU6.1⟩
instance{a b:Int}:Bc (leB a b) (a<=b) (b<a):=⟨bV6.1,eU7.1⟩
instance{a b:Int}:Bc (eqB a b) (a=b) (a≠b):=⟨aA1.1,dY0.1⟩
theorem zz{b:Bool}{p q A B:Prop}[Bc b p q](h1:p->A)(h2:q->B):branch b A B:=jU (fun h=>h1 (Bc.t h)) (fun h=>h2 (Bc.f h))
section
variable{T:Tab}{P:Program}{σ:St}
theorem zi{env:Nat->V}{ops:List Oper}{K:List (Nat×List Nat)->Prop}(hk:K [])(h:cP6 T ops=true:=by kernel_rfl):aC9 T env ops K:=eZ1 h hk
theorem za{n:Int}{K:Int->Prop}(hk:K n)(h: -9223372036854775808<=n/\n<=9223372036854775807:=by omega):arith .i64 n K:=eH4 h hk
theorem zo{p K:Prop}(hk:K)(h:p:=by first|omega|exact rfl):need p K:=fU h hk
theorem zm{α:Type}{f:α->V}{l:List α}{i:Nat}{K:V->Prop}(h:∀x,l[i]? =some x->K (f x))(hi:i<l.length:=by omega):idx (l.map f) i K:=eQ9 hi h
theorem zv{en:AE}{g:Nat}{K:Prop}(hk:K)(h1:en.gen=g:=by exact rfl)(h2:en.kind≠ .dead:=by exact fun h=>Ag):need (en.gen=g/\en.kind≠ .dead) K:=eY0 h1 h2 hk
theorem zj{e:List (Nat×V)}{lb:List (Nat×List V)}{lr:List (Nat×AE)}(h8:wk8 σ.ar (ofO lr)/\wk8b σ.bx (ofO lb):=by(repeat' (first|exact trivial|refine And.intro ?_ ?_|with_reducible rfl|exact(fun h=>Ag)|exact Nat.le_refl _|omega|exact rfl))<;>fail)(hA:wkA T σ lr:=by(repeat' (first|exact trivial|refine And.intro ?_ ?_|with_reducible rfl|exact(fun h=>Ag)|exact Nat.le_refl _|omega|exact rfl))<;>fail)(hB:wkB σ (ofO lb) (ofO lr) lb:=by(repeat' (first|exact trivial|refine And.intro ?_ ?_|with_reducible rfl|exact(fun h=>Ag)|exact Nat.le_refl _|omega|exact rfl))<;>fail)(hE:wkE σ (ofO lb) (ofO lr) e:=by(repeat' (first|exact trivial|refine And.intro ?_ ?_|with_reducible rfl|exact(fun h=>Ag)|exact Nat.le_refl _|omega|exact rfl))<;>fail):Le T σ (mkSt e lb lr):=dV h8 hA hB hE
theorem zc{light:Md}{d:Nat}{f:FuncId}{xs ys:List V}{r:V}{K:VK}(hs:Go.Ab.Spec T P f ys r)
 (hk:zZ σ d (reuse σ (bD ys xs)) r fun v ms=>K v (appR (cond false [] (aV σ (bK ys xs))) (appR (aX σ (bD ys xs)) ms)))
 (hg:iQ T σ.ar ys xs:=by(repeat' (first|exact trivial|refine And.intro ?_ ?_|with_reducible rfl|exact(fun h=>Ag)|exact rfl))<;>fail)
 (hc:sO light.light false xs ys r=true:=by exact rfl):kY T P light σ d f xs K:=aS5 hs false hg hc hk
theorem zh{light:Md}{d:Nat}{f:FuncId}{xs ys:List V}{bs bs':List (List V)}{r:V}{K:VK}(hs:Go.Ab.aU2 T P f ys bs r bs')(is:List Nat)
 (hk:aX2 σ.bx σ.ar is (ownG ((xs,ys)::eU σ.bx bs is)) d r bs' fun v ms=>K v (appR (aV σ (mF ((xs,ys)::eU σ.bx bs is))) (appR (aX σ (ownG ((xs,ys)::eU σ.bx bs is))) ms)))
 (hm:light.may d is ((xs,ys)::eU σ.bx bs is)=true:=by exact rfl)(hg:xM T σ.ar is ((xs,ys)::eU σ.bx bs is):=by(repeat' (first|exact trivial|refine And.intro ?_ ?_|with_reducible rfl|exact(fun h=>Ag)|exact rfl))<;>fail)(hc:zA σ.bx ((xs,ys)::eU σ.bx bs is) is bs r=true:=by exact rfl):kY T P light σ d f xs K:=fC9 hs is hm hg hc hk
theorem zt{ar:Nat->Option AE}{r x:V}(h1:iQ T ar [r] [x] :=by(repeat' (first|exact trivial|refine And.intro ?_ ?_|with_reducible rfl|exact(fun h=>Ag)|exact rfl))<;>fail)(h2:iR [x] [r] =true:=by exact rfl)(h3:∀rs,r≠ .tup rs:=by exact fun rs h=>V.noConfusion h):iQ T ar [r] [x]/\iR [x] [r] =true/\(∀rs,r≠ .tup rs):=⟨h1,h2,h3⟩
theorem zu{ar:Nat->Option AE}{xs ys:List V}(h:iQ T ar ys xs/\iR xs ys=true:=by(repeat' (first|exact trivial|refine And.intro ?_ ?_|with_reducible rfl|exact(fun h=>Ag)|exact rfl))<;>fail):∃ys',V.tup ys= .tup ys'/\iQ T ar ys' xs/\iR xs ys'=true:=⟨ys,rfl,h⟩
end
theorem zy{t:TypeId}{K:Prop}(hk:K)(h:(T.row t).eq=true:=by kernel_rfl):need ((T.row t).eq=true) K:=fU h hk
theorem zc1{A:Prop}(h:A:=by(repeat' (first|exact trivial|refine And.intro ?_ ?_|with_reducible rfl|exact(fun _ h=>Ag)|exact rfl))<;>fail):A:=h
theorem zsp{f:FuncId}{fn:Func}{ys:List V}{r:V}(hf:Tryz.prog.funcs[f]? =some fn)(h:fnVC T Tryz.prog fn ys r)(hc:callable Tryz.prog f=true:=by kernel_rfl)(hn:Nat.ble ys.length fn.ntmps=true:=by kernel_rfl):Sp f ys r:=dR hf hc hn h
theorem zS{p q:Prop}(hk:q)(h:q->p:=by
 intro hk
 first|exact zg hk|exact zi hk|exact za hk|exact zw hk|exact zy hk|exact zo hk|exact zn hk|exact zv hk|exact aB Aa hk|exact aF Ad Aa hk|exact gK Ad Aa hk|exact zc Ad hk|exact zr hk|exact zq hk):p:=h hk
theorem zT{p q r:Prop}(a:q)(b:r)(h:q->r->p:=by
 intro a b
 first|exact zz a b|exact zb a b):p:=h a b
theorem zE{p:Prop}(h:p:=by
 (conv=>whnf)
 first|exact aG rfl|exact aK rfl|exact aP rfl|exact zt|exact zu):p:=h
theorem zF{p:Prop}(h:p:=by
 repeat' ((conv=>whnf);first|(exfalso;omega)|(exfalso;contradiction)|refine zS ?_|refine zT ?_ ?_<;>intro _|fail)
 all_goals exact zE):p:=h
section
variable{α:Type}(c:α->α->Int)
def insR(x:α):List α->List α
 | [] => [x]
 |y::r=>if c x y<0 then y::insR x r else x::y::r
def isR(xs:List α):List α:=xs.foldl (fun R x=>insR c x R) []
def qA(xs:List α):List α:=(isR c xs).reverse
variable{c}
theorem cE5(x:α):∀R,(insR c x R).length=R.length+1
 | [] =>rfl
 |y::r=>by
  unfold insR;split
  ·simp[cE5 x r]
  ·simp
theorem eB2(xs:List α)(x:α):isR c (xs++[x])=insR c x (isR c xs):=by simp[isR]
theorem dG7:∀(xs R:List α),(xs.foldl (fun R x=>insR c x R) R).length=R.length+xs.length
 | [],R=>rfl
 |x::xs,R=>by rw[List.foldl_cons,dG7 xs,cE5];simp;omega
theorem dH2(xs:List α):(isR c xs).length=xs.length:=by unfold isR;rw[dG7];simp
theorem cG2{x:α}:∀ {R:List α} {z:α},z∈insR c x R↔z=x\/z∈R
 | [],z=>by simp[insR]
 |y::r,z=>by
  unfold insR;split
  ·rw[List.mem_cons,cG2 (R:=r),List.mem_cons]
   constructor<;>(rintro(h|h|h)<;>simp[h])
  ·simp
theorem dH5:∀ {xs R:List α} {z:α},z∈xs.foldl (fun R x=>insR c x R) R↔z∈R\/z∈xs
 | [],R,z=>Ae
 |x::xs,R,z=>by
  rw[List.foldl_cons,dH5 (xs:=xs),cG2,List.mem_cons];constructor
  ·rintro((h|h)|h)<;>simp[h]
  ·rintro(h|h|h)<;>simp[h]
theorem dI0{xs:List α}{z:α}:z∈isR c xs↔z∈xs:=by unfold isR;rw[dH5];simp
end
theorem dX6{α:Type}{f:α->V}{l:List α}{en:AE}{g:Nat}{z:Int}{K:Prop}(h1:en.gen=g)(h2:en.kind≠ .dead)(h0:en.l=l.map f)(h3:0<=z/\z<l.length)(hk:K):need (en.gen=g/\en.kind≠ .dead/\0<=z/\z<en.l.length) K:=
 fU ⟨h1,h2,h3.1,by rw[h0,List.length_map];exact h3.2⟩ hk
theorem dY5{α:Type}{f:α->V}{l:List α}{n:Nat}{v:V}{en:AE}{g:Nat}{z:Int}{K:Prop}(h1:en.gen=g)(h2:en.kind≠ .dead)(h0:en.l=(l.map f).set n v)(h3:0<=z/\z<l.length)(hk:K):need (en.gen=g/\en.kind≠ .dead/\0<=z/\z<en.l.length) K:=
 fU ⟨h1,h2,h3.1,by rw[h0,List.length_set,List.length_map];exact h3.2⟩ hk
theorem cQ9{l:List V}{i j:Nat}{v:V}{K:V->Prop}(h:j≠i)(hk:idx l i K):idx (l.set j v) i K:=by
 obtain⟨x,h1,h2⟩:=hk;exact⟨x,by rw[List.getElem?_set_ne h];exact h1,h2⟩
theorem set_mid{α:Type}{A B:List α}{x y:α}{i:Nat}(h:i=A.length):(A++x::B).set i y=A++y::B:=by subst h;simp
theorem dB8{en:AE}{g:Nat}{K:Prop}(h1:en.gen=g)(h2:en.kind= .own)(hk:K):need (en.gen=g/\en.kind= .own) K:=fU ⟨h1,h2⟩ hk
section
variable{α:Type}{c:α->α->Int}
theorem cX8(l:List α):(qA c l).length=l.length:=by unfold qA;rw[List.length_reverse,dH2]
theorem dB0{l:List α}{z:α}:z∈qA c l↔z∈l:=by unfold qA;rw[List.mem_reverse,dI0]
end
abbrev Vc:=Int×Int
def vcV(v:Vc):V:= .agg [I v.1,I v.2]
abbrev Sg:=Vc×Vc
def sgV(s:Sg):V:= .agg [I s.1.1,I s.1.2,I s.2.1,I s.2.2]
abbrev Bx:=Vc×Vc
def bxV(s:Bx):V:= .agg [I s.1.1,I s.1.2,I s.2.1,I s.2.2]
def cmpI(a b:Int):Int:=if a<b then-1 else if b<a then 1 else 0
def orI(a b:Int):Int:=if a=0 then b else a
def vsub(a b:Vc):Vc:=(W (a.1-b.1),W (a.2-b.2))
def vdot(a b:Vc):Int:=W (W (a.1*b.1)+W (a.2*b.2))
def bZ(a b:Vc):Int:=W (W (a.1*b.2)-W (a.2*b.1))
def kR(a b c:Vc):Int:=cmpI (bZ (vsub b a) (vsub c a)) 0
def vcmp(a b:Vc):Int:=orI (cmpI a.2 b.2) (cmpI a.1 b.1)
def kF(a b:Vc):Prop:=vcmp a b<0
def within(a:Vc)(m:Int):Prop:=W (0-m)<=a.1/\a.1<=m/\W (0-m)<=a.2/\a.2<=m
def bJ8(b:Bx)(a:Vc):Prop:=b.1.1<=a.1/\a.1<=b.2.1/\b.1.2<=a.2/\a.2<=b.2.2
def gU(b:Bx)(v:Vc):Bx:=((min b.1.1 v.1,min b.1.2 v.2),(max b.2.1 v.1,max b.2.2 v.2))
def aC7:List Vc->Bx×Bool
 | [] =>(((0,0),(0,0)),false)
 |v::l=>((v::l).foldl gU (v,v),true)
def bI(s:Sg):Prop:=within s.1 4000/\within s.2 4000
def eX(s:Sg)(p:Vc):Prop:=bI s/\bJ8 (aC7 [s.1,s.2]).1 p/\kR s.1 s.2 p=0
theorem tmod_lt(a b:Int)(h:b≠0):(a.tmod b).natAbs<b.natAbs:=by
 rw[Int.natAbs_tmod];exact Nat.mod_lt _ Aa
def gcdI(a b:Int):Int:=if h:b=0 then a else gcdI b (a.tmod b)
termination_by b.natAbs
decreasing_by exact tmod_lt a b h
def divisor(a b:Int):Int:=max (gcdI a b) (W (0-gcdI a b))
theorem gcd_zero:∀(n:Nat) (a b:Int),b.natAbs<=n->gcdI a b=0->a=0/\b=0:=by
 intro n
 induction n with
 |zero=>
  intro a b hb h;have:b=0:=Aa;subst this;rw[gcdI]at h;simpa using h
 |succ n ih=>
  intro a b hb h;rw[gcdI]at h;split at h
  ·rename_i h0;exact⟨h,h0⟩
  ·rename_i h0
   have hlt:=tmod_lt a b h0;obtain⟨h1,h2⟩:=ih b (a.tmod b) Aa h;exact absurd h1 h0
def R64(n:Int):Prop:= -9223372036854775808<=n/\n<=9223372036854775807
theorem cY8{a b:Int}(h:R64 a):R64 (a.tmod b):=by
 have h1:(a.tmod b).natAbs<=a.natAbs:=by rw[Int.natAbs_tmod];exact Nat.mod_le _ _
 unfold R64 at*;rcases Int.le_total 0 a with h0|h0
 ·have:=Int.tmod_nonneg b h0
  omega
 ·have h2:a.tmod b<=0:=by
   have:=Int.tmod_nonneg b (a:= -a) Aa;rw[Int.neg_tmod]at this;omega
  omega
theorem bT7:∀(n:Nat) (a b:Int),b.natAbs<=n->R64 a->R64 b->R64 (gcdI a b):=by
 intro n
 induction n with
 |zero=>
  intro a b hb ha _;have:b=0:=Aa;subst this;rw[gcdI];simpa using ha
 |succ n ih=>
  intro a b hb ha hb2;rw[gcdI];split
  ·exact ha
  ·rename_i h0
   have hlt:=tmod_lt a b h0;exact ih b (a.tmod b) Aa hb2 (cY8 ha)
theorem cB4{a b:Int}(ha:R64 a)(hb:R64 b)(h:divisor a b=0):a=0/\b=0:=by
 have hr:=bT7 _ a b (Nat.le_refl _) ha hb;unfold divisor at h;refine gcd_zero _ a b (Nat.le_refl _) ?_;have h1:gcdI a b<=0:=Aa
 have h2:W (0-gcdI a b)<=0:=Aa;unfold R64 at hr;generalize gcdI a b=g at*;by_cases hm:g= -9223372036854775808
 ·subst hm
  have e:W (0- -9223372036854775808)= -9223372036854775808:=Ah;rw[e]at h;omega
 ·rw[w_in Aa]at h h2
  omega
theorem bO1{a b:Int}(ha:R64 a)(hb:R64 b):R64 (divisor a b):=by
 have h1:=bT7 _ a b (Nat.le_refl _) ha hb;have h2:=nT (0-gcdI a b)
 unfold divisor;unfold R64 at*;omega
theorem aN2(n:Int):Sp 140 [I n] (.lit (.bool false)):=by
 refine zsp Tryz.func140 ?_
 repeat' ((conv=>whnf);first|refine zS ?_|fail)
 refine aK ?_;have:eqB n n=true:=aA1.2 rfl;rw[this];rfl
theorem aB9(a b:Int):Sp 102 [I a,I b] (I (cmpI a b)):=by
 refine zsp Tryz.func102 ?_;unfold cmpI
 repeat' ((conv=>whnf);first|refine zc (aN2 a) ?_|refine zc (aN2 b) ?_|refine zS ?_|refine zl (fun hlt=>?_) (fun hlt=>?_))
 all_goals
  conv=>whnf
  refine aG ?_
 ·rw[if_pos hlt]
 ·rw[if_neg Aa,if_pos hlt]
 ·rw[if_neg Aa,if_neg Aa]
theorem fF(a b:Vc):Sp 239 [vcV a,vcV b] (vcV (vsub a b)):=by
 refine zsp Tryz.func239 ?_;exact LQ
theorem dP6(a b:Vc):Sp 341 [vcV a,vcV b] (I (vdot a b)):=by
 refine zsp Tryz.func341 ?_;exact LQ
theorem kD(a b:Vc):Sp 202 [vcV a,vcV b] (I (bZ a b)):=by
 refine zsp Tryz.func202 ?_;exact LQ
theorem aI8(a b c:Vc):Sp 194 [vcV a,vcV b,vcV c] (I (kR a b c)):=by
 refine zsp Tryz.func194 ?_
 repeat' ((conv=>whnf);first|refine zc (fF b a) ?_|refine zc (fF c a) ?_|refine zc (kD (vsub b a) (vsub c a)) ?_|refine zc (aB9 (bZ (vsub b a) (vsub c a)) 0) ?_|refine zS ?_|fail)
 all_goals exact zE
def orL:List Int->Int
 | [] =>0
 |x::l=>if x=0 then orL l else x
theorem orL_2(a b:Int):orL [a,b] =orI a b:=by
 unfold orL orI orL orL;split
 ·split
  ·rename_i h;rw[h]
  ·rfl
 ·rfl
theorem dZ0(l:List Int)(hl:l.length<=1000):Sp 299 [.sl (l.map I)] (I (orL l)):=by
 refine zsp Tryz.func299 ?_;have hlm:(l.map I).length=l.length:=Ae
 repeat' ((conv=>whnf);first|refine zS ?_|fail)
 refine aU (A:=List Int) (B:=List Int) (fun D R=>mkSt [(3,I 0),(6, .sl (l.map I)),(7,I (l.map I).length),(8,I D.length)] [] []) (fun D R=>l=D++R/\orL l=orL R) (fun D R=>R.length) [] l ?_ ⟨rfl,rfl⟩ (fun D R hp=>?_)
 ·exact zj
 obtain⟨hp,ho⟩:=hp
 cases R with
 |nil=>
  have hlen:l.length=D.length:=Af
  repeat' ((conv=>whnf);first|(exfalso;omega)|refine zS ?_|refine zl (fun hlt=>?_) (fun hlt=>?_))
  all_goals conv=>whnf
  exact aG (by rw[ho];rfl)
 |cons x R=>
  have hlen:=aO hp
  repeat' ((conv=>whnf);first|(exfalso;omega)|refine zS ?_|refine zl (fun hlt=>?_) (fun hlt=>?_)|refine ze (fun heq=>?_) (fun heq=>?_))
  all_goals conv=>whnf
  ·refine⟨(D++[x],R),?_,⟨Af,by rw[ho];show(if x=0 then orL R else x)=_;rw[if_pos heq]⟩,Ae⟩
   simp only[List.length_append];exact zj
  ·exact aG (by rw[ho];exact(if_neg heq).symm)
theorem eO6(a b:Int):Sp 299 [.sl [I a,I b]] (I (orI a b)):=by
 have:=dZ0 [a,b] Ae;rw[orL_2]at this;exact this
structure Cm where
 kind:Int
 px:Int
 py:Int
 den:Int
 share:Sg
def cmV(c:Cm):V:= .agg [I c.kind,I c.px,I c.py,I c.den,I c.share.1.1,I c.share.1.2,I c.share.2.1,I c.share.2.2]
def cm0:Cm:=⟨0,0,0,0,((0,0),(0,0))⟩
def single(p:Vc):Cm:=⟨1,p.1,p.2,1,((0,0),(0,0))⟩
def turned(a b d:Int):Int×Int×Int:=if d<0 then(W (0-a),W (0-b),W (0-d))else(a,b,d)
def aL6(s:Sg)(u:Vc)(a d:Int):Int:=W (W (s.1.1*d)+W (a*u.1))
def aP4(s:Sg)(u:Vc)(a d:Int):Int:=W (W (s.1.2*d)+W (a*u.2))
def aH6(a b d:Int):Int:=if a=0\/a=d\/b=0\/b=d then 1 else 2
def lX(s t:Sg):Int:=bZ (vsub t.1 s.1) (vsub t.2 t.1)
def lS(s t:Sg):Int:=bZ (vsub t.1 s.1) (vsub s.2 s.1)
open Classical in
def lines(s t:Sg)(d:Int):Cm:=
 let q:=turned (lX s t) (lS s t) d
 if q.1<0\/q.2.2<q.1\/q.2.1<0\/q.2.2<q.2.1 then cm0
 else
  let x:=aL6 s (vsub s.2 s.1) q.1 q.2.2
  let y:=aP4 s (vsub s.2 s.1) q.1 q.2.2
  let g:=divisor (divisor x y) q.2.2
  ⟨aH6 q.1 q.2.1 q.2.2,W (x.tdiv g),W (y.tdiv g),W (q.2.2.tdiv g),((0,0),(0,0))⟩
open Classical in
def ordS(s:Sg):Sg:=if kF s.2 s.1 then(s.2,s.1)else s
open Classical in
def hiLo(s t:Sg):Sg:=(if kF s.1 t.1 then t.1 else s.1,if kF t.2 s.2 then t.2 else s.2)
def yD(q:Sg):Cm:=if vcmp q.1 q.2=0 then single q.1 else if vcmp q.1 q.2= -1 then⟨3,0,0,0,q⟩else cm0
def jC(s t:Sg):Int:=bZ (vsub s.2 s.1) (vsub t.2 t.1)
open Classical in
def kQ(s t:Sg):Cm:=
 if¬bI s\/¬bI t then cm0
 else if jC s t≠0 then lines s t (jC s t)
 else if s.1=s.2/\eX t s.1 then single s.1
 else if t.1=t.2/\eX s t.1 then single t.1
 else if s.1=s.2\/t.1=t.2\/kR s.1 s.2 t.1≠0 then cm0
 else yD (hiLo (ordS s) (ordS t))
def dG(s t:Sg):Int:=(kQ s t).kind
abbrev Pt:=Int×Int×Int
def ptV(p:Pt):V:= .agg [I p.1,I p.2.1,I p.2.2]
def bounded(p:Pt)(m:Int):Prop:=1<=p.2.2/\p.2.2<=134217728/\within (p.1,p.2.1) (W (m*p.2.2))
def wJ(p:Pt):Prop:=bounded p 4000/\divisor (divisor p.1 p.2.1) p.2.2=1
abbrev Rg:=List Vc
def rgV(r:Rg):V:= .sl (r.map vcV)
def z0:Vc:=(0,0)
def iU(r:Rg)(i:Nat):Vc:=r.getD ((i+1)% r.length) z0
def mY(r:Rg)(i:Nat):Vc:=r.getD ((i+r.length-1)% r.length) z0
def aJ4(r:Rg)(i:Nat):Sg:=(r.getD i z0,iU r i)
def bF(r:Rg):List Sg:=if r.length<2 then []else(List.range r.length).map (aJ4 r)
def cI8(r:Rg)(n:Nat):Int:=(List.range n).foldl (fun a i=>W (a+bZ (r.getD i z0) (iU r i))) 0
def zY(r:Rg):Int:=cI8 r r.length
theorem bC2(r:Rg)(n:Nat):cI8 r (n+1)=W (cI8 r n+bZ (r.getD n z0) (iU r n)):=by
 unfold cI8;rw[List.range_succ,List.foldl_append];rfl
def bR7(r:Rg):Prop:=∀v∈r,within v 2000
def cZ4(l:List Sg)(n i k:Nat):Prop:=k≠i+1->(i≠0\/k≠n-1)->dG (l.getD i (z0,z0)) (l.getD k (z0,z0))=0
def dM(r:Rg):Prop:=3<=r.length/\r.length<=40/\bR7 r/\0<zY r/\(∀i,i<r.length->kR (mY r i) (r.getD i z0) (iU r i)≠0)/\
 ∀i k,i<k->k<r.length->cZ4 (bF r) r.length i k
open Classical in
def nG(r:Rg):Int:=if dM r then zY r else 0
def toP(p:Pt)(v:Vc):Vc:=(W (p.1-W (v.1*p.2.2)),W (p.2.1-W (v.2*p.2.2)))
def bV4(p:Pt)(e:Sg):Int:=bZ (vsub e.2 e.1) (toP p e.1)
def onE(p:Pt)(e:Sg):Prop:=bV4 p e=0/\min (toP p e.1).1 (toP p e.2).1<=0/\0<=max (toP p e.1).1 (toP p e.2).1/\min (toP p e.1).2 (toP p e.2).2<=0/\0<=max (toP p e.1).2 (toP p e.2).2
def rW(p:Pt)(e:Sg):Prop:=¬(0<=(toP p e.1).2↔0<=(toP p e.2).2)/\(0<=(toP p e.1).2↔0<bV4 p e)
open Classical in
def lU(p:Pt):List Sg->Bool->Int
 | [],ins=>if ins=true then 2 else 0
 |e::es,ins=>if onE p e then 1 else if rW p e then lU p es (!ins)else lU p es ins
open Classical in
def iF(r:Rg)(p:Pt):Int:=if dM r/\wJ p then lU p (bF r) false else 0
open Classical in
def fJ(r:Rg)(v:Vc):Int:=if within v 4000 then iF r (v.1,v.2,1)else 0
open Classical in
def sQ:Vc->List Vc->Vc
 |m,[] =>m
 |m,x::l=>sQ (if kF x m then x else m) l
open Classical in
def sN(v:Vc):List Vc->Nat->Option Nat
 | [],_=>none
 |x::l,k=>if v=x then some k else sN v l (k+1)
def wO(r:Rg):Vc:=sQ (r.getD 0 z0) (r.drop 1)
def wL(r:Rg):Rg:=r.drop ((sN (wO r) r 0).getD 0)++r.take ((sN (wO r) r 0).getD 0)
open Classical in
def gQ(r:Rg):Rg:=if dM r then wL r else []
open Classical in
theorem bD3:∀(l:List Vc) (m:Vc),sQ m l=m\/sQ m l∈l
 | [],m=> .inl rfl
 |x::l,m=>by
  unfold sQ;rcases bD3 l (if kF x m then x else m)with h|h
  ·rw[h]
   split
   ·exact .inr Ae
   ·exact .inl rfl
  ·exact .inr (List.mem_cons_of_mem _ h)
theorem aT6{v:Vc}:∀ {l:List Vc} {k:Nat},v∈l->∃j,sN v l k=some j/\k<=j/\j<k+l.length
 | [],k,h=>Ag
 |x::l,k,h=>by
  unfold sN;split
  ·exact⟨k,rfl,Nat.le_refl _,Ae⟩
  ·rename_i hne
   have:v∈l:=by
    rcases List.mem_cons.1 h with h|h
    ·exact absurd h hne
    ·exact h
   obtain⟨j,h1,h2,h3⟩:=aT6 (k:=k+1) this;exact⟨j,h1,Aa,A8⟩
theorem eH8{r:Rg}(h:r≠ []):wO r∈r:=by
 cases r with
 |nil=>exact absurd rfl h
 |cons v l=>
  unfold wO;rcases bD3 l v with h|h
  ·show sQ v l∈_
   rw[h];simp
  ·exact List.mem_cons_of_mem _ h
structure Sh where
 outer:Rg
 holes:List Rg
def shV(s:Sh):V:= .agg [rgV s.outer, .sl (s.holes.map rgV)]
def sh0:Sh:=⟨[],[]⟩
def rings(s:Sh):List Rg:=s.outer::s.holes
def pR(r b:Rg)(place:Int):Prop:=∀v∈r,fJ b v=place
def uV(a b:Rg):Prop:=∀x∈bF a,∀y∈bF b,dG x y=0
def corners(l:List Rg):Nat:=(l.map List.length).sum
def cU0(o:Rg)(pre:List Rg)(h:Rg):Prop:=pR h o 2/\uV h o/\∀k∈pre,uV h k/\pR h k 0/\pR k h 0
def qR(o:Rg):List Rg->List Rg->Prop
 |_,[] =>True
 |pre,h::l=>cU0 o pre h/\qR o (pre++[h]) l
def bG(s:Sh):Prop:=s.holes.length<=6/\(∀r∈rings s,dM r)/\corners (rings s)<=80/\qR s.outer [] s.holes
def qH(n:Int)(l:List Rg):Int:=l.foldl (fun a r=>W (a-nG r)) n
open Classical in
def uK(s:Sh):Int:=if bG s then qH (W (2*nG s.outer)) (rings s)else 0
def aC0(s:Sh):List Sg:=(rings s).flatMap bF
def qG(out:Int)(p:Pt):List Rg->Int
 | [] =>out
 |h::l=>if iF h p=2 then 0 else if iF h p=1 then 1 else qG out p l
open Classical in
def qW(s:Sh)(p:Pt):Int:=if bG s then(if iF s.outer p=2 then qG 2 p s.holes else iF s.outer p)else 0
open Classical in
def lJ(s:Sh)(v:Vc):Int:=if within v 4000 then qW s (v.1,v.2,1)else 0
theorem kC(a:Vc)(m:Int):Sp 238 [vcV a,I m] (DB (within a m)):=by
 refine zsp Tryz.func238 ?_
 repeat' ((conv=>whnf);first|refine zg ?_|refine zw ?_|refine zz (fun _=>?_) fun _=>?_|refine zr ?_)
 all_goals conv=>whnf
 all_goals refine aA ?_
 all_goals first
  |(refine le_dec ?_;unfold within;omega)
  |exact aC (by unfold within;omega)
theorem qI(a b:Vc):Sp 249 [vcV a,vcV b] (I (vcmp a b)):=by
 refine zsp Tryz.func249 ?_
 repeat' ((conv=>whnf);first|refine zc (aB9 a.2 b.2) ?_|refine zc (aB9 a.1 b.1) ?_|(refine aS5 (eO6 (cmpI a.2 b.2) (cmpI a.1 b.1)) true ?_ rfl ?_;focus ((repeat' (first|exact trivial|refine And.intro ?_ ?_|with_reducible rfl|exact(fun h=>Ag)|exact rfl));done))|refine zS ?_|fail)
 all_goals exact zE
theorem yQ(a b:Vc):Sp 290 [vcV a,vcV b] (DB (kF a b)):=by
 refine zsp Tryz.func290 ?_
 repeat' ((conv=>whnf);first|refine zc (qI a b) ?_|refine zS ?_|fail)
 all_goals conv=>whnf
 exact aA eU2
theorem cQ7(b:Bx)(a:Vc):Sp 326 [bxV b,vcV a] (DB (bJ8 b a)):=by
 refine zsp Tryz.func326 ?_
 repeat' ((conv=>whnf);first|refine zS ?_|refine zT ?_ ?_<;>intro _|fail)
 all_goals conv=>whnf
 all_goals refine aA ?_
 all_goals first
  |(refine le_dec ?_;unfold bJ8;omega)
  |exact aC (by unfold bJ8;omega)
theorem aK1(s:Sg):Sp 286 [sgV s] (DB (bI s)):=by
 refine zsp Tryz.func286 ?_
 repeat' ((conv=>whnf);first|refine zc (kC s.1 4000) ?_|refine zc (kC s.2 4000) ?_|refine zS ?_|refine zT ?_ ?_<;>intro _|fail)
 all_goals conv=>whnf
 all_goals refine aA ?_
 all_goals first
  |(refine fQ ?_;unfold bI;simp[*];done)
  |exact aC (by unfold bI;simp[*])
end Go.Proofs.Led
