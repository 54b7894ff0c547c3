/-
  The library's Grow at vectors: its laying, and what it says (after the kit's contract).
-/
import Derived.Test.YtdjgbagnajikeaaGreatDoorB2
import Derived.Shelf.Spec.SlicesGrow
set_option linter.unusedVariables false
set_option linter.unusedSimpArgs false
set_option maxRecDepth 100000
set_option maxHeartbeats 4000000
noncomputable section
namespace Go.Proofs
open Go.Shelf Go.Ab
def Tryz.bY5:Go.Shelf.Ren:=⟨λ|4=>328|n=>n,λ|22=>75|25=>97|n=>n,λn=>n⟩
theorem Tryz.cH7:Go.Proofs.Lays8.n4 Tryz.prog Tryz.bY5:={
 mixed:=Ac
 f4:=⟨Tryz.f328.name,Ai,Tryz.func328.trans (Rh some Ac)⟩
 t0:=Tryz.underlying0
 a0:=Tryz.isAgg0
 z0:=Tryz.sizeOf0
 v0:=Tryz.zeroValue0
 t3:=Tryz.underlying3
 a3:=Tryz.isAgg3
 z3:=Tryz.sizeOf3
 v3:=Tryz.zeroValue3
 t4:=Tryz.underlying4
 a4:=Tryz.isAgg4
 z4:=Tryz.sizeOf4
 v4:=Tryz.zeroValue4
 t9:=Tryz.underlying9
 a9:=Tryz.isAgg9
 z9:=Tryz.sizeOf9
 v9:=Tryz.zeroValue9
 t20:=Tryz.underlying20
 a20:=Tryz.isAgg20
 z20:=Tryz.sizeOf20
 v20:=Tryz.zeroValue20
 t22:=Tryz.underlying75
 a22:=Tryz.isAgg75
 z22:=Tryz.sizeOf75
 v22:=Tryz.zeroValue75}
end Go.Proofs
namespace Go.Proofs.Led
open Go Go.Proofs Go.Ab Go.RowKit
theorem dZ9{w:World}{G:Gh}{j:Nat}{v:Value}{u:Value}(h:Rb T w G j v (.lit u)):v=u:=h.2.bH
theorem arr2{cs:Array Value}(h:cs.size=2):∃a b,cs= #[a,b] :=by
 obtain⟨l⟩:=cs
 match l,h with
 | [a,b],_=>exact⟨a,b,rfl⟩
theorem row97:aH9 Tryz.prog 97 (T.row 97):=uG 97 (QC Ac)
theorem size97:(T.row 97).size=2:=Ac
theorem bytes97:(T.row 97).bytes=16:=Ac
theorem dP8(n:Nat)(K:n<=1000000):Sp 328 [.lit (.slice none 0 0),I n] (.own 97 []):=by
 refine⟨Ac,λw G cs E u h3 y L=>?_⟩;obtain⟨x,B,rfl⟩:=arr2 E;have C:x= .slice none 0 0:=dZ9 (y 0 x _ rfl rfl)
 have F:B= .int .i64 n:=dZ9 (y 1 B (I n) rfl rfl);subst C F;have f:97<T.n 97:=QC Ac
 rcases Nat.eq_zero_or_pos n with rfl|A
 ·refine(Any8.slices_Grow_room Tryz.cH7 none 0 0 0 w (QH _) Ai Ai Ai).mono ?_
  rintro e w' ⟨rfl,rfl⟩;refine⟨_,G,rfl,⟨f,Gv, .inl ⟨.inl rfl,rfl⟩⟩,λ_ h=>h,u,h3,λb hb=>?_,λ_ _ _=>rfl,QH _,rfl,rfl,rfl⟩;exact NS
 ·obtain⟨D,o,r,k,z,H,s,_,l,_,_⟩:=row97.info
  rw[size97]at r l;rw[bytes97]at k;have t:z.cells.size=2:=by rw[<-RD,s,l]
  have d:Calls Tryz.prog 328 #[.slice none 0 0, .int .i64 n] w λe w'=>e= .returned (.slice (some ⟨w.heap.size,0,none⟩) 0 (grownCap w (0+n) 0 97))/\
   w'=w.drew.alloc (.cells (([] :List Value).toArray++Builtin.zeroCells z.cells (0+n-0)++Builtin.zeroCells z.cells (grownCap w (0+n) 0 97- (0+n))) 97):=
   Any8.slices_Grow_grow Tryz.cH7 D z o H Aa none 0 0 n [] w (QH _) Aa (by rw[k];omega) Aa Ae (λ_=>rfl) (λa h=>Ah)
  refine d.mono ?_;rintro e w' ⟨rfl,rfl⟩;have J:=grownCap_ge w (0+n) 0 97;have q:=grownCap_le_maxLen w (0+n) 0 97 Cf
  have c:(w.drew.alloc (.cells (([] :List Value).toArray++Builtin.zeroCells z.cells (0+n-0)++Builtin.zeroCells z.cells (grownCap w (0+n) 0 97- (0+n))) 97)).heap.size=w.heap.size+1:=Array.size_push _;have m:(w.drew.alloc (.cells (([] :List Value).toArray++Builtin.zeroCells z.cells (0+n-0)++Builtin.zeroCells z.cells (grownCap w (0+n) 0 97- (0+n))) 97)).heap[w.heap.size]? =some (.cells (([] :List Value).toArray++Builtin.zeroCells z.cells (0+n-0)++Builtin.zeroCells z.cells (grownCap w (0+n) 0 97- (0+n))) 97 (0,0)):=Ur
  have g:∀b,b<w.heap.size->(w.drew.alloc (.cells (([] :List Value).toArray++Builtin.zeroCells z.cells (0+n-0)++Builtin.zeroCells z.cells (grownCap w (0+n) 0 97- (0+n))) 97)).heap[b]? =w.heap[b]? :=by
   intro b hb;have:(w.drew.alloc (.cells (([] :List Value).toArray++Builtin.zeroCells z.cells (0+n-0)++Builtin.zeroCells z.cells (grownCap w (0+n) 0 97- (0+n))) 97)).heap=w.heap.push _:=rfl;rw[this,Array.getElem?_push_lt hb,Ul hb]
  refine⟨_,{G with O:=upd G.O w.heap.size (.ar 0)},rfl,⟨f,Gv, .inr ⟨w.heap.size,_,_,rfl,upd_same _ _ _,m,Ro _,q,?_,Ae,?_⟩⟩,?_,?_,?_,?_,λb hb _=>g b hb,by rw[c];omega,rfl,rfl,rfl⟩
  ·rw[U2,U2,size_zeroCells,size_zeroCells,t,size97]
   show 0+(0+n-0)*2+(grownCap w (0+n) 0 97- (0+n))*2=grownCap w (0+n) 0 97*2;omega
  ·refine⟨Ae,Ae,Ae⟩
  ·intro b hb
   have:b≠w.heap.size:=λe=>by have:=u b AP;omega
   show upd G.O w.heap.size (.ar 0) b= .fz;rw[upd_ne _ _ this];exact hb
  ·intro b hb
   rw[c];change upd G.O w.heap.size (.ar 0) b≠ .ext at hb;by_cases e:b=w.heap.size
   ·omega
   ·have v:G.O b≠ .ext:=by
     have:=hb;rw[show(upd G.O w.heap.size (Tag.ar 0)) b=G.O b from upd_ne _ _ e]at this;exact this
    have:=u b v;omega
  ·intro b i hb
   change upd G.O w.heap.size (.ar 0) b= .bx i at hb;by_cases e:b=w.heap.size
   ·subst e
    rw[show(upd G.O w.heap.size (Tag.ar 0)) w.heap.size= .ar 0 from upd_same _ _ _]at hb;cases hb
   ·rw[show(upd G.O w.heap.size (Tag.ar 0)) b=G.O b from upd_ne _ _ e]at hb
    exact h3 b i hb
  ·intro b hb
   change upd G.O w.heap.size (.ar 0) b≠ .ext at hb;show(G.O b= .fz/\upd G.O w.heap.size (.ar 0) b= .fz)\/_;by_cases e:b=w.heap.size
   ·exact .inr (.inl Aa)
   ·rw[show(upd G.O w.heap.size (Tag.ar 0)) b=G.O b from upd_ne _ _ e]at hb⊢
    exact NS
end Go.Proofs.Led
namespace Go.Proofs.Led
open Go Go.Proofs Go.Ab
theorem cN6(L:List Rg)(q:L.length<=100)(g:∀l∈L,l.length<=10000):Sp 296 [.sl (L.map rgV)] (.own 97 (L.flatten.map vcV)):=by
 refine zsp Tryz.func296 ?_;have o:(L.map rgV).length=L.length:=Ae
 have b:∀D:List Rg,(∀l∈D,l.length<=10000)->D.flatten.length<=D.length*10000:=by
  intro D
  induction D with
  |nil=>intro _;simp
  |cons d D n=>
   intro h;have h1:=h d Ae;have r:=n (λl c=>h l (by simp[c]))
   simp only[List.flatten_cons,QG,QM];omega
 repeat' ((conv=>whnf);first|refine zS ?_|fail)
 refine aU (A:=List Rg) (B:=List Rg) (λD R=>mkSt [(0, .sl (L.map rgV)),(3,I D.flatten.length),(9, .sl (L.map rgV)),(10,I L.length),(11,I D.length)] [] [])
  (λD R=>L=D++R) (λD R=>R.length) [] L ?_ rfl (λD R f=>?_)
 ·exact zj
 ·have h1:L=D++R:=f
  have a:L.length=D.length+R.length:=Bh;have j:=b D (λl c=>g l (by rw[h1];simp[c]))
  cases R with
  |cons x R=>
   rw[QM]at a;have k:=g x Bh;have i:(x.map vcV).length=x.length:=Ae
   repeat' ((conv=>whnf);first|omega|refine zS ?_|refine zT ?_ ?_<;>intro _|fail)
   conv=>whnf
   refine⟨(D++[x],R),?_,?_,?_⟩
   ·refine dV ?_ ?_ ?_ ?_
    all_goals repeat' (first|exact trivial|refine And.intro ?_ ?_|with_reducible rfl|exact(λh=>Ah)|exact QH _|omega|exact rfl)
    ·show(D.flatten.length:Int)+((x.map vcV).length:Nat)=((D++[x]).flatten.length:Nat)
     rw[i];simp
    ·show(D.length:Int)+1=(D++[x]).length
     simp
   ·show L=D++[x] ++R
    rw[h1];simp
   ·show R.length< (x::R).length
    simp
  |nil=>
   have e:L=D:=Bh;simp at a
   repeat' ((conv=>whnf);first|omega|refine zc (dP8 D.flatten.length Aa) ?_|refine zS ?_|refine zT ?_ ?_<;>intro _|fail)
   clear h1 f a j
   refine aU (A:=List Rg) (B:=List Rg) (λD R=>mkSt [(6, .arr 24 D.length),(25, .sl (L.map rgV)),(26,I L.length),(27,I D.length)] [] [(24,⟨D.length, .own,97,D.flatten.map vcV⟩)])
    (λD R=>L=D++R) (λD R=>R.length) [] L ?_ rfl (λD R f=>?_)
   ·exact zj
   ·have h1:L=D++R:=f
    have a:L.length=D.length+R.length:=Bh;have j:=b D (λl c=>g l (by rw[h1];simp[c]))
    cases R with
    |cons x R=>
     rw[QM]at a;have k:=g x Bh
     repeat' ((conv=>whnf);first|omega|refine iH rfl (.inl rfl) rfl (QC rfl) (λy hy=>AX) (by show(List.map vcV D.flatten).length+(List.map vcV x).length<=_;rw[QS,QS];omega) ?_|refine zS ?_|refine zT ?_ ?_<;>intro _|fail)
     conv=>whnf
     refine⟨(D++[x],R),?_,?_,?_⟩
     ·refine dV ?_ ?_ ?_ ?_
      all_goals repeat' (first|exact trivial|refine And.intro ?_ ?_|with_reducible rfl|exact(λh=>Ah)|exact QH _|omega|exact rfl)
      all_goals first
       |(show D.length+1=(D++[x]).length;simp;done)
       |(show List.map vcV D.flatten++List.map vcV x=List.map vcV (D++[x]).flatten;simp;done)
       |(show(D.length:Int)+1=(D++[x]).length;simp;done)
     ·show L=D++[x] ++R
      rw[h1];simp
     ·show R.length< (x::R).length
      simp
    |nil=>
     have e:L=D:=Bh;simp at a
     repeat' ((conv=>whnf);first|omega|refine zS ?_|refine zT ?_ ?_<;>intro _|fail)
     conv=>whnf
     refine⟨⟨⟨rfl,rfl,rfl,?_⟩,trivial⟩,rfl,λ_ h=>Ah⟩;show List.map vcV D.flatten=List.map vcV L.flatten;rw[e]
theorem dT1{xs ys:List V}{X Y Z:Rg}(c:xs=X.map vcV)(b:ys=Y.map vcV)(d:Z=X++Y)(f:X.length<=10000)(e:Y.length<=10000):Sp 296 [.sl [.sl xs, .sl ys]] (.own 97 (Z.map vcV)):=by
 subst c b d
 have:=cN6 [X,Y] Ae (λl a=>by
  rcases QO.1 a with rfl|a
  ·exact f
  ·cases QI.1 a;exact e)
 rwa [show [X,Y].flatten=X++Y from Ae]at this
theorem bJ7{r:Rg}(h:dM r):gQ r=wL r:=Q9 h
theorem eJ3{r:Rg}(h:¬dM r):gQ r=[] :=Q5 h
theorem aU6(r:Rg)(c:r.length<=1000000):Sp 246 [rgV r] (.sl ((gQ r).map vcV)):=by
 refine zsp Tryz.func246 ?_;have n:(r.map vcV).length=r.length:=Ae;by_cases b:dM r
 ·rw[bJ7 b]
  have a:r≠ [] :=λh=>by have:=b.1;rw[h]at this;simp at this
  have f:=b.2.1;obtain⟨j,e,_,m⟩:=aT6 (k:=0) (eH8 a);have d:bZ1 (wO r) r=j:=by unfold bZ1;rw[e]
  have hi:=cJ4 r (wO r) c;rw[d]at hi;have i:wL r=r.drop j++r.take j:=by unfold wL;rw[e];rfl
  rw[i]
  have l:=xX (dT1 (xs:=((r.map vcV).take (((r.map vcV).length:Nat):Int).toNat).drop ((j:Nat):Int).toNat) (ys:=((r.map vcV).take ((j:Nat):Int).toNat).drop (0:Int).toNat) (X:=r.drop j) (Y:=r.take j) (Z:=r.drop j++r.take j)
   (by rw[RP,RP,Tn,List.map_drop]) (by rw[RP,List.map_take];rfl) rfl (by rw[Rz];omega) Gs)
  repeat' ((conv=>whnf);first|(exfalso;contradiction)|refine zc (lN r c) ?_|refine zc (cL6 r c a) ?_|refine bW8 [] [(20,[88888])] trivial Ac ?_|refine fU ⟨Aa,Aa,Aa, .inr (λx g=>by obtain⟨v,_,rfl⟩:=QZ.1 g;rfl)⟩ ?_|refine zh (l) [] ?_|refine zS ?_|refine zT ?_ ?_<;>intro _|fail)
  all_goals conv=>whnf
  exact Ns
 ·rw[eJ3 b]
  repeat' ((conv=>whnf);first|(exfalso;contradiction)|refine zc (lN r c) ?_|refine zS ?_|refine zT ?_ ?_<;>intro _|fail)
  all_goals conv=>whnf
  exact⟨⟨rfl,trivial⟩,rfl,λ_ h=>Ah⟩
theorem aM5(l:List Vc):∀y∈l.map vcV,y.cells.length=2:=λy hy=>AX
theorem aY2(r:Rg)(d:r.length<=1000000):Sp 353 [rgV r] (.sl (r.map vcV)):=by
 refine zsp Tryz.func353 ?_;have c:(r.map vcV).length=r.length:=Ae
 repeat' ((conv=>whnf);first|(refine bV3.mk rfl (QC Ac) Ac (.inl rfl) ?_;intro b a;cases b)|refine iH rfl (.inl rfl) rfl (QC rfl) (aM5 r) (by show 0+(List.map vcV r).length<=_;omega) ?_|refine zS ?_|fail)
 all_goals conv=>whnf
 ·refine⟨?_,rfl,λrs h=>V.noConfusion h⟩
  (repeat' (first|exact trivial|refine And.intro ?_ ?_|with_reducible rfl|exact(λh=>Ah)|exact rfl));done
 ·have e:r=[] :=by
   cases r with
   |nil=>rfl
   |cons x l=>exact absurd (a Ae) Ai
  subst e;exact Ns
theorem bH7(a b:Rg)(d:a.length<=1000000)(c:b.length<=1000000):Sp 244 [rgV a,rgV b] (DB (a=b)):=by
 refine zsp Tryz.func244 ?_
 repeat' ((conv=>whnf);first|refine zc (eA2 a b d c) ?_|refine zS ?_|fail)
 all_goals exact zE
def sV(lo hi:Vc):Sh:=open Classical in if hi.1<=lo.1\/hi.2<=lo.2\/¬within lo 2000\/¬within hi 2000 then sh0 else⟨[lo,(hi.1,lo.2),hi,(lo.1,hi.2)],[]⟩
theorem eS0{lo hi:Vc}(h:hi.1<=lo.1\/hi.2<=lo.2\/¬within lo 2000\/¬within hi 2000):sV lo hi=sh0:=Q9 h
theorem eR9{lo hi:Vc}(h:¬(hi.1<=lo.1\/hi.2<=lo.2\/¬within lo 2000\/¬within hi 2000)):sV lo hi=⟨[lo,(hi.1,lo.2),hi,(lo.1,hi.2)],[]⟩:=Q5 h
theorem cX1(lo hi:Vc):Sp 310 [vcV lo,vcV hi] (shV (sV lo hi)):=by
 refine zsp Tryz.func310 ?_;have b:=eS0 (lo:=lo) (hi:=hi);have a:=eR9 (lo:=lo) (hi:=hi)
 generalize sV lo hi=A at*
 repeat' ((conv=>whnf);first|refine zc (kC lo 2000) ?_|refine zc (kC hi 2000) ?_|refine zS ?_|refine zT ?_ ?_<;>intro _|fail)
 all_goals conv=>whnf
 all_goals first
  |(rw[b BG];refine⟨?_,rfl,λrs h=>V.noConfusion h⟩;(repeat' (first|exact trivial|refine And.intro ?_ ?_|with_reducible rfl|exact(λh=>Ah)|exact rfl));done)
  |(rw[a (by rintro(q|q|q|q)<;>first|omega|contradiction)];refine⟨?_,rfl,λrs h=>V.noConfusion h⟩;(repeat' (first|exact trivial|refine And.intro ?_ ?_|with_reducible rfl|exact(λh=>Ah)|exact rfl));done)
theorem eG2{l:List Rg}{z:Int}{k:Nat}{K:V->Prop}(b:z=(k:Int))(h:k<l.length)(a:K (rgV (l.getD k []))):idx (l.map rgV) z.toNat K:=by
 subst b;refine gK (l:=l) (j:=k) (x:=l.getD k []) ?_ Aa a;exact Qe
theorem eJ5{l:List Rg}{k:Nat}(h:k<l.length):l.take (k+1)=l.take k++[l.getD k []] :=by
 rw[Uh,RJ,QE h];rfl
theorem getD_mem{l:List Rg}{k:Nat}(h:k<l.length):l.getD k []∈l:=LG
theorem dW1(a b:List Rg)(s:a.length<=1000000)(q:b.length<=1000000)(g:∀r∈a,r.length<=1000000)(e:∀r∈b,r.length<=1000000):Sp 245 [.sl (a.map rgV), .sl (b.map rgV), .fn 244 []] (DB (a=b)):=by
 refine zsp Tryz.func245 ?_;have m:(a.map rgV).length=a.length:=Ae;have n:(b.map rgV).length=b.length:=Ae
 repeat' ((conv=>whnf);first|refine zS ?_|refine ze (λd=>?_) (λd=>?_))
 all_goals conv=>whnf
 all_goals first
  |(refine aA (aC ?_);intro h;subst h;omega)
  |skip
 have hab:a.length=b.length:=Aa;refine lD (A:=Nat) (λk=>mkSt [(0, .sl (a.map rgV)),(1, .sl (b.map rgV)),(2, .fn 244 []),(15, .sl (a.map rgV)),(16,I a.length),(17,I k)] [] []) (λk=>k<=a.length/\a.take k=b.take k) (λk=>a.length-k) 0 ?_ ⟨Aa,rfl⟩ (λk j=>?_)
 ·exact zj
 obtain⟨j,ht⟩:=j;by_cases f:k<a.length
 ·have o:=bH7 (a.getD k []) (b.getD k []) (g _ (getD_mem f)) (e _ (getD_mem Aa))
  repeat' ((conv=>whnf);first|omega|refine eG2 (l:=a) (k:=k) Aa Aa ?_|refine eG2 (l:=b) (k:=k) Aa Aa ?_|refine zS ?_|refine zd (λi=>?_) (λi=>?_)|refine zl (λc=>?_) (λc=>?_))
  all_goals conv=>whnf
  ·refine⟨k+1,?_,⟨Aa,?_⟩,Aa⟩
   ·exact zj
   ·rw[eJ5 Aa,eJ5 Aa,ht,i]
  ·refine aA (aC ?_)
   intro h;subst h;exact i rfl
 ·have ek:k=a.length:=by omega
  repeat' ((conv=>whnf);first|omega|refine zS ?_|refine zl (λc=>?_) (λc=>?_))
  all_goals conv=>whnf
  exact PI
theorem cQ8(a b:Sh)(d:gV a)(c:gV b):Sp 203 [shV a,shV b] (DB (a=b)):=by
 refine zsp Tryz.func203 ?_
 have e:a=b↔a.outer=b.outer/\a.holes=b.holes:=by
  obtain⟨g,i⟩:=a;obtain⟨j,f⟩:=b;simp
 repeat' ((conv=>whnf);first|refine zc (bH7 a.outer b.outer d.1 c.1) ?_|refine zc (dW1 a.holes b.holes d.2.1 c.2.1 d.2.2 c.2.2) ?_|refine zS ?_|refine zT ?_ ?_<;>intro _|fail)
 all_goals conv=>whnf
 all_goals first
  |(refine aA (fQ ?_);rw[e];exact⟨λq=>⟨Ag,q⟩,λq=>q.2⟩)
  |(refine aA (aC ?_);rw[e];intro q;exact absurd q.1 Ag)
def rinSt(s:Sh)(D:List Rg):St:=match D with
 | [] =>mkSt [(1, .box 1 0),(3, .box 3 0),(6, .fn 152 [.fp (shV s).cells])] [(1,(shV s).cells),(3,[nilV])] []
 |d::D=>mkSt [(1, .box 1 0),(3, .box 3 0),(6, .fn 152 [.fp (shV s).cells])] [(1,(shV s).cells),(3,[.arr 12 D.length])] [(12,⟨D.length, .own,75,(d::D).map rgV⟩)]
theorem dV3{s:Sh}(a:gV s){D R:List Rg}(hp:rings s=D++R):D.length<=1000001:=by
 have c:(rings s).length=D.length+R.length:=Ad;have b:(rings s).length=s.holes.length+1:=AQ
 have:=a.2.1;omega
theorem aW6(s:Sh)(c:gV s):Sp 339 [shV s] (.own 75 ((rings s).map rgV)):=by
 refine zsp Tryz.func339 ?_
 repeat' ((conv=>whnf);first|refine zc (rQ s) ?_|refine zS ?_|fail)
 all_goals conv=>whnf
 refine aM3 (iI s) (vJ s c.2.1) (vC s) (A:=List Rg) (B:=List Rg) (λD R=>rinSt s D)
  (λk D R=>rings s=D++R/\D.length=k) [] (rings s) ?_ ⟨rfl,rfl⟩ rfl ?_ ?_
 ·exact zj
 ·rintro k D R j ⟨hp,f⟩ e
  subst f;obtain⟨r,R',rfl,rfl⟩:=aE4 hp e;have a:r.length<=1000000:=c.mem Ad;have g:=dV3 c hp
  cases D with
  |nil=>
   repeat' ((conv=>whnf);first|refine zc (aY2 r a) ?_|refine gX (QC rfl) (dA rfl) (QC rfl) ?_|refine zS ?_|fail)
   all_goals conv=>whnf
   refine⟨([r],R'),?_,by rw[hp];rfl,rfl⟩
   show Le T _ (mkSt [(1, .box 1 0),(3, .box 3 0),(6, .fn 152 [.fp (shV s).cells])] [(1,(shV s).cells),(3,[.arr 12 0])] [(12,⟨0, .own,75,[rgV r]⟩)]);exact zj
  |cons d D=>
   have i:((d::D).map rgV).length=(d::D).length:=QS ..
   repeat' ((conv=>whnf);first|refine zc (aY2 r a) ?_|refine iH rfl (.inl rfl) rfl (QC rfl) (dA rfl) (show((d::D).map rgV).length+1<=1000000000 from Aa) ?_|refine zS ?_|fail)
   all_goals conv=>whnf
   refine⟨(d::D++[r],R'),?_,Ad,Ae⟩;show Le T _ (mkSt [(1, .box 1 0),(3, .box 3 0),(6, .fn 152 [.fp (shV s).cells])] [(1,(shV s).cells),(3,[.arr 12 (D++[r]).length])] [(12,⟨(D++[r]).length, .own,75,((d::D)++[r]).map rgV⟩)]);rw[show((d::D)++[r]).map rgV=(d::D).map rgV++[rgV r] from Ae,QG,QK];exact zj
 ·rintro D R ⟨hp,f⟩
  have b:R=[] :=Je;subst b;rw[QU]at hp;exact Qo
def verSt(rs:List Rg)(D:List Rg):St:=match D with
 | [] =>mkSt [(3,nilV),(7, .arr 7 0),(8,I rs.length),(9,I 0)] [] [(7,⟨0, .own,75,rs.map rgV⟩)]
 |d::D=>mkSt [(3, .arr 15 D.length),(7, .arr 7 0),(8,I rs.length),(9,I ((D.length:Int)+1))] [] [(7,⟨0, .own,75,rs.map rgV⟩),(15,⟨D.length, .own,97,(d::D).flatten.map vcV⟩)]
theorem dH9(D:List Rg)(h:∀r∈D,r.length<=1000000):D.flatten.length<=1000000*D.length:=by
 induction D with
 |nil=>simp
 |cons d D b=>
  have e:=h d Ae;have c:=b (λr a=>h r (by simp[a]))
  rw[List.flatten_cons,QG,QM];omega
theorem aJ3(s:Sh)(f:gV s)(q:s.holes.length<=6):Sp 302 [shV s] (.own 97 ((rings s).flatten.map vcV)):=by
 refine zsp Tryz.func302 ?_;have o:=aW6 s f;have b:rings s≠ [] :=AQ
 have j:(rings s).length<=7:=Fe;have a:∀r∈rings s,r.length<=1000000:=λr c=>f.mem c
 generalize rings s=rs at*;have k:(rs.map rgV).length=rs.length:=Ae
 repeat' ((conv=>whnf);first|refine zS ?_|fail)
 refine aU (A:=List Rg) (B:=List Rg) (λD R=>verSt rs D) (λD R=>rs=D++R) (λD R=>R.length) [] rs ?_ rfl (λD R hp=>?_)
 ·exact IE
 have t:=dH9 D (λr c=>a r (by rw[hp];simp[c]))
 cases R with
 |nil=>
  have e:rs=D:=Ad;subst e
  cases rs with
  |nil=>exact absurd rfl b
  |cons d D=>
   have i:(d::D).length=D.length+1:=rfl
   repeat' ((conv=>whnf);first|omega|refine zS ?_|refine zT ?_ ?_<;>intro _|fail)
   all_goals conv=>whnf
   exact OU
 |cons r R=>
  have g:=aO hp;have l:=a r Ad
  have n:(r.map vcV).length=r.length:=Ae
  cases D with
  |nil=>
   have i:([] :List Rg).length=0:=rfl
   repeat' ((conv=>whnf);first|omega|refine dS rfl rfl Du ?_|refine gX (QC rfl) (aM5 _) (show(r.map vcV).length<=1000000000 from Aa) ?_|refine zS ?_|refine zT ?_ ?_<;>intro _|fail)
   all_goals conv=>whnf
   refine⟨([r],R),?_,hp,Ae⟩;show Le T _ (mkSt [(3, .arr 15 0),(7, .arr 7 0),(8,I rs.length),(9,I (0+1))] [] [(7,⟨0, .own,75,rs.map rgV⟩),(15,⟨0, .own,97,([r] :List Rg).flatten.map vcV⟩)]);rw[show([r] :List Rg).flatten=r from Ae];exact zj
  |cons d D=>
   have i:(d::D).length=D.length+1:=rfl;have m:((d::D).flatten.map vcV).length=(d::D).flatten.length:=QS ..
   repeat' ((conv=>whnf);first|omega|refine dS rfl rfl Du ?_|refine iH rfl (.inl rfl) rfl (QC rfl) (aM5 _) (show((d::D).flatten.map vcV).length+(r.map vcV).length<=1000000000 from Aa) ?_|refine zS ?_|refine zT ?_ ?_<;>intro _|fail)
   all_goals conv=>whnf
   refine⟨(d::D++[r],R),?_,Ad,Ae⟩;show Le T _ (mkSt [(3, .arr 15 (D++[r]).length),(7, .arr 7 0),(8,I rs.length),(9,I (((D++[r]).length:Int)+1))] [] [(7,⟨0, .own,75,rs.map rgV⟩),(15,⟨(D++[r]).length, .own,97,((d::D)++[r]).flatten.map vcV⟩)]);rw[show((d::D)++[r]).flatten.map vcV=(d::D).flatten.map vcV++r.map vcV from Ae,QG,QK];exact zj
def jS(a b:Vc):Int:=if 0<bZ a b then 0 else if bZ a b<0 then 2 else if vdot a b<0 then 1 else 3
theorem eW4{a b:Vc}(h:0<bZ a b):jS a b=0:=Q9 h
theorem eZ4{a b:Vc}(h:bZ a b<0):jS a b=2:=by unfold jS;rw[Q5 (by omega),Q9 h]
theorem eW6{a b:Vc}(c:bZ a b<=0)(d:0<=bZ a b)(h:vdot a b<0):jS a b=1:=by unfold jS;rw[Q5 (by omega),Q5 (by omega),Q9 h]
theorem fB4{a b:Vc}(c:bZ a b<=0)(d:0<=bZ a b)(h:0<=vdot a b):jS a b=3:=by unfold jS;rw[Q5 (by omega),Q5 (by omega),Q5 (by omega)]
theorem aQ6(a b:Vc):Sp 306 [vcV a,vcV b] (I (jS a b)):=by
 refine zsp Tryz.func306 ?_;have f:=eW4 (a:=a) (b:=b);have l:=eW6 (a:=a) (b:=b)
 have k:=eZ4 (a:=a) (b:=b);have g:=fB4 (a:=a) (b:=b)
 generalize jS a b=A at*;have i:=kD a b;have j:=dP6 a b
 generalize bZ a b=c at*;generalize vdot a b=d at*
 repeat' ((conv=>whnf);first|refine zc i ?_|refine zc j ?_|refine zS ?_|refine zl (λe=>?_) (λe=>?_))
 all_goals conv=>whnf
 all_goals first
  |exact aG (f Aa).symm
  |exact aG (k Aa).symm
  |exact aG (l Aa Aa Aa).symm
  |exact aG (g Aa Aa Aa).symm
theorem bX9(s:Sg):Sp 256 [sgV s] (sgV (s.2,s.1)):=by
 refine zsp Tryz.func256 ?_;exact Ov
def oG(s:Sg)(d:Vc):Prop:=jS s.1 d<jS s.1 s.2\/(jS s.1 d=jS s.1 s.2/\jS s.1 d≠3/\0<bZ d s.2)
theorem bE0(s:Sg)(d:Vc):Sp 307 [sgV s,vcV d] (DB (oG s d)):=by
 refine zsp Tryz.func307 ?_;have f:=aQ6 s.1 d;have e:=aQ6 s.1 s.2
 have b:=kD d s.2;generalize hP:oG s d=P;have a:P↔oG s d:=GI
 unfold oG at a;clear hP;generalize jS s.1 d=x at*;generalize jS s.1 s.2=y at*;generalize bZ d s.2=c at*
 repeat' ((conv=>whnf);first|refine zc f ?_|refine zc e ?_|refine zc b ?_|refine zS ?_|refine zT ?_ ?_<;>intro _|fail)
 all_goals conv=>whnf
 all_goals refine aA ?_
 all_goals first
  |exact fE (a.2 Aa)
  |exact aC (λh=>by have h:=a.1 h;omega)
  |(refine aS1 ?_;rw[a];omega)
def jH(s t:Sg):Prop:=jS s.1 t.1=3\/oG s t.1\/oG t s.1
theorem cT5(s t:Sg):Sp 255 [sgV s,sgV t] (DB (jH s t)):=by
 refine zsp Tryz.func255 ?_;have d:=aQ6 s.1 t.1;have b:=bE0 s t.1
 have c:=bE0 t s.1;generalize hP:jH s t=P;have a:P↔jH s t:=GI
 unfold jH at a;clear hP;generalize jS s.1 t.1=x at*;generalize oG s t.1=p at*;generalize oG t s.1=q at*
 repeat' ((conv=>whnf);first|refine zc d ?_|refine zc b ?_|refine zc c ?_|refine zS ?_|refine zT ?_ ?_<;>intro _|fail)
 all_goals conv=>whnf
 all_goals refine aA ?_
 all_goals first
  |exact fE (a.2 (by first|exact .inl ‹_› |exact .inr (.inl ‹_›)))
  |(refine fQ ?_;rw[a];exact⟨λh=> .inr (.inr h),λh=>by rcases h with h|h|h<;>first|contradiction|exact h⟩)
theorem fD3{g:FuncId}{c d:List V}{Q:Vc->Prop}(hg:∀m,Sp g (vcV m:: [.fp c, .fp d]) (DB (Q m)))(l:List Vc)(b:l.length<=1000000):fnVC T Tryz.prog Tryz.f285 [.sl (l.map vcV), .fn g [.fp c, .fp d]] (I (fstI Q l)):=by
 have a:(l.map vcV).length=l.length:=Ae
 repeat' ((conv=>whnf);first|refine zS ?_|fail)
 refine aU (A:=List Vc) (B:=List Vc) (λD R=>mkSt [(0, .sl (l.map vcV)),(1, .fn g [.fp c, .fp d]),(7,I l.length),(8,I D.length)] [] [])
  (λD R=>l=D++R/\∀m∈D,¬Q m) (λD R=>R.length) [] l ?_ ⟨rfl,Ae⟩ (λD R hp=>?_)
 ·exact zj
 ·exact Iz
theorem dW6{g:FuncId}{c d:List V}{Q:Vc->Prop}(a:∀m,Sp g (vcV m:: [.fp c, .fp d]) (DB (Q m)))(l:List Vc)(b:l.length<=1000000):Sp 285 [.sl (l.map vcV), .fn g [.fp c, .fp d]] (I (fstI Q l)):=zsp Tryz.func285 (fD3 a l b)
theorem eY5{g:FuncId}{c d:List V}{Q:Vc->Prop}(a:∀m,Sp g (vcV m:: [.fp c, .fp d]) (DB (Q m)))(l:List Vc)(b:l.length<=1000000):fnVC T Tryz.prog Tryz.f236 [.sl (l.map vcV), .fn g [.fp c, .fp d]] (DB (∃m∈l,Q m)):=by
 repeat' ((conv=>whnf);first|refine zc (dW6 a l b) ?_|refine zS ?_|fail)
 exact MW
theorem dV5{g:FuncId}{c d:List V}{Q:Vc->Prop}(a:∀m,Sp g (vcV m:: [.fp c, .fp d]) (DB (Q m)))(l:List Vc)(b:l.length<=1000000):Sp 236 [.sl (l.map vcV), .fn g [.fp c, .fp d]] (DB (∃m∈l,Q m)):=zsp Tryz.func236 (eY5 a l b)
theorem cY2(b:Sh)(n:Int)(a:gV b)(v:Vc):Sp 303 [vcV v, .fp (shV b).cells, .fp [I n]] (DB (lJ b v=n)):=by
 refine zsp Tryz.func303 ?_
 repeat' ((conv=>whnf);first|refine zc (aD4 b v a) ?_|refine zS ?_|fail)
 all_goals conv=>whnf
 all_goals exact aA eqB_d
def rV(s:Sh):List Vc:=(rings s).flatten
theorem cH3{s:Sh}(a:gV s)(c:s.holes.length<=6):(rV s).length<=7000000:=by
 have e:=dH9 (rings s) (λr b=>a.mem b);have d:(rings s).length=s.holes.length+1:=AQ
 unfold rV;omega
def bL9(a b:Sh)(n:Int):Prop:=∃v∈rV a,lJ b v=n
theorem bK5(a b:Sh)(n:Int)(d:gV a)(e:a.holes.length<=6)(c:gV b)(f:(rV a).length<=1000000):Sp 252 [shV a,shV b,I n] (DB (bL9 a b n)):=by
 refine zsp Tryz.func252 ?_
 repeat' ((conv=>whnf);first|refine zc (aJ3 a d e) ?_|refine zc (dV5 (λv=>cY2 b n c v) (rV a) f) ?_|refine zS ?_|fail)
 all_goals conv=>whnf
 all_goals exact aA rfl
end Go.Proofs.Led
namespace Go.Proofs.Led
open Go Go.Proofs Go.Ab Go.RowKit
structure jL where
 id:Int
 grade:ByteArray
 heat:ByteArray
 grain:Int
 shape:Sh
 defects:List Sh
def shC(s:Sh):List V:=[rgV s.outer, .sl (s.holes.map rgV)]
def aA7(s:jL):List V:=[I s.id,S s.grade,S s.heat,I s.grain,rgV s.shape.outer, .sl (s.shape.holes.map rgV), .sl (s.defects.map shV)]
def zJ(s:jL):V:= .agg (aA7 s)
def dN:jL:=⟨0,aI,aI,0,sh0,[]⟩
abbrev Iv:=Int×Int
def ivV(d:Iv):V:= .agg [I d.1,I d.2]
structure Bar where
 id:Int
 grade:ByteArray
 heat:ByteArray
 length:Int
 defects:List Iv
def barC(b:Bar):List V:=[I b.id,S b.grade,S b.heat,I b.length, .sl (b.defects.map ivV)]
def barV(b:Bar):V:= .agg (barC b)
def bar0:Bar:=⟨0,aI,aI,0,[]⟩
structure aN where
 isBar:Bool
 sheet:jL
 bar:Bar
 program:ByteArray
def gB(x:aN):List V:=[B x.isBar,I x.sheet.id,S x.sheet.grade,S x.sheet.heat,I x.sheet.grain,rgV x.sheet.shape.outer, .sl (x.sheet.shape.holes.map rgV), .sl (x.sheet.defects.map shV),
 I x.bar.id,S x.bar.grade,S x.bar.heat,I x.bar.length, .sl (x.bar.defects.map ivV),S x.program]
def aQ(x:aN):V:= .agg (gB x)
def wS:aN:=⟨false,dN,bar0,aI⟩
structure Piece where
 id:Int
 parent:Int
 part:ByteArray
 grade:ByteArray
 heat:ByteArray
 size:Int
 isBar:Bool
 status:Int
 order:ByteArray
def dZ8(x:Piece):List V:=[I x.id,I x.parent,S x.part,S x.grade,S x.heat,I x.size,B x.isBar,I x.status,S x.order]
def aZ(x:Piece):V:= .agg (dZ8 x)
structure aJ where
 stocks:List aN
 pieces:List Piece
 used:List Int
 received:Iv
 scrap:Iv
def invC(s:aJ):List V:=[.sl (s.stocks.map aQ), .sl (s.pieces.map aZ), .sl (s.used.map I),I s.received.1,I s.received.2,I s.scrap.1,I s.scrap.2]
def invV(s:aJ):V:= .agg (invC s)
def inv0:aJ:=⟨[],[],[],(0,0),(0,0)⟩
structure Made where
 id:Int
 part:ByteArray
 size:Int
def dK(x:Made):V:= .agg [I x.id,S x.part,I x.size]
structure Rest where
 id:Int
 box:Bx
 lo:Int
 hi:Int
def bY(x:Rest):V:= .agg [I x.id,I x.box.1.1,I x.box.1.2,I x.box.2.1,I x.box.2.2,I x.lo,I x.hi]
structure Event where
 kind:Int
 id:Int
 text:ByteArray
 sheet:jL
 bar:Bar
 cuts:List Made
 rests:List Rest
 scrap:Int
def iJ(x:Event):List V:=[I x.kind,I x.id,S x.text,I x.sheet.id,S x.sheet.grade,S x.sheet.heat,I x.sheet.grain,rgV x.sheet.shape.outer, .sl (x.sheet.shape.holes.map rgV), .sl (x.sheet.defects.map shV),
 I x.bar.id,S x.bar.grade,S x.bar.heat,I x.bar.length, .sl (x.bar.defects.map ivV), .sl (x.cuts.map dK), .sl (x.rests.map bY),I x.scrap]
def aS(x:Event):V:= .agg (iJ x)
def lK(s:jL):Prop:=gV s.shape/\s.defects.length<=1000000/\∀d∈s.defects,gV d
end Go.Proofs.Led
namespace Go.Proofs.Led
open Go Go.Proofs Go.Ab
variable{g:FuncId}{c:Rg->Rg->Int}{Q:Rg->Prop}
abbrev cF2(g:FuncId)(c:Rg->Rg->Int)(Q:Rg->Prop):Prop:=∀i j,Q i->Q j->Sp g [rgV i,rgV j] (I (c i j))
theorem fC7(D:cF2 g c Q)(pre xs a:List Rg)(C:∀x∈xs,Q x)(J:pre.length+xs.length+a.length<=100000):
 fnIO T Tryz.prog Tryz.f329 [.own 75 ((pre++xs++a).map rgV),I pre.length,I (pre.length+xs.length), .fn g []] (.tup []) 0 75 ((pre++qA c xs++a).map rgV):=by
 repeat' ((conv=>whnf);first|refine zS ?_|fail)
 refine lD (A:=Nat) (λk=>mkSt [(0, .arr 0 0),(1,I pre.length),(2,I (pre.length+xs.length)),(3, .fn g []),(8,I (pre.length+k))] [] [(0,⟨0, .own,75,(pre++(isR c (xs.take k)).reverse++xs.drop k++a).map rgV⟩)])
  (λk=>1<=k/\(k<=xs.length\/k=1)) (λk=>xs.length-k) 1 ?_ ⟨Aa, .inr rfl⟩ (λk E=>?_)
 ·refine dV ?_ ?_ ?_ ?_
  all_goals repeat' (first|exact trivial|refine And.intro ?_ ?_|with_reducible rfl|exact(λh=>Ah)|exact QH _|omega|exact rfl)
  ·show List.map rgV (pre++xs++a)=List.map rgV (pre++(isR c (List.take 1 xs)).reverse++List.drop 1 xs++a)
   cases xs with
   |nil=>simp[isR]
   |cons x r=>simp[isR,insR]
 ·change 1<=k/\(k<=xs.length\/k=1)at E
  rcases Ry k xs.length with e|e
  ·have t:xs.drop k=xs[k] ::xs.drop (k+1):=List.drop_eq_getElem_cons e
   have w:xs.take (k+1)=xs.take k++[xs[k]] :=by rw[Uh,QE e];rfl
   have s:Q xs[k] :=C _ (Tm e);generalize xs[k] =x at t w s;obtain⟨b,n⟩:∃b,xs.drop (k+1)=b:=⟨_,rfl⟩;rw[n]at t;have o:(isR c (xs.take k)).length=k:=by rw[dH2,QL];omega
   have q:∀z∈isR c (xs.take k),Q z:=λz v=>C z (Ri (dI0.1 v));have f:isR c (xs.take (k+1))=insR c x (isR c (xs.take k)):=by rw[w,eB2]
   generalize isR c (xs.take k)=j at o q f;rw[t]
   repeat' ((conv=>whnf);first|omega|refine zS ?_|refine zl (λd=>?_) (λd=>?_))
   refine aU (A:=List Rg) (B:=List Rg) (λR M=>mkSt [(0, .arr 0 0),(1,I pre.length),(2,I (pre.length+xs.length)),(3, .fn g []),(8,I (pre.length+k)),(9,I (pre.length+R.length))] [] [(0,⟨0, .own,75,(pre++(R.reverse++x::(M++b))++a).map rgV⟩)])
    (λR M=>R.length<=k/\(∀z∈R,Q z)/\(insR c x j).reverse=(insR c x R).reverse++M) (λR M=>R.length) j [] ?_ ⟨Aa,q,Ae⟩ (λR M F=>?_)
   ·refine dV ?_ ?_ ?_ ?_
    all_goals repeat' (first|exact trivial|refine And.intro ?_ ?_|with_reducible rfl|exact(λh=>Ah)|exact QH _|omega|exact rfl)
    ·show List.map rgV (pre++j.reverse++x::b++a)=List.map rgV (pre++(j.reverse++x::([] ++b))++a)
     simp
   ·obtain⟨u,m,i⟩:=F
    change R.length<=k at u;change∀z∈R,Q z at m;change (insR c x j).reverse=(insR c x R).reverse++M at i
    cases R with
    |nil=>
     have K:([] :List Rg).length=0:=rfl
     repeat' ((conv=>whnf);first|omega|refine zS ?_|refine zl (λd=>?_) (λd=>?_))
     refine⟨k+1,?_,⟨Aa, .inl Aa⟩,Aa⟩;rw[f];refine dV ?_ ?_ ?_ ?_;all_goals repeat' (first|exact trivial|refine And.intro ?_ ?_|with_reducible rfl|exact(λh=>Ah)|exact QH _|omega|exact rfl)
     ·show List.map rgV (pre++([].reverse++x::(M++b))++a)=List.map rgV (pre++(insR c x j).reverse++List.drop (k+1) xs++a)
      rw[i,n];simp[insR]
    |cons y r=>
     have G:(pre++((y::r).reverse++x::(M++b))++a).length=pre.length+(r.length+1)+1+(M++b++a).length:=AU;have H:(y::r).length=r.length+1:=rfl
     repeat' ((conv=>whnf);first|omega|(refine dY5 (l:=pre++((y::r).reverse++x::(M++b))++a) rfl (λh=>Ah) rfl ?_ ?_;focus (constructor<;>omega))|refine cQ9 Aa ?_|(refine dX6 (l:=pre++((y::r).reverse++x::(M++b))++a) rfl (λh=>Ah) rfl ?_ ?_;focus (constructor<;>omega))|refine aF (l:=pre++((y::r).reverse++x::(M++b))++a) (A:=pre++(y::r).reverse) (x:=x) (B:=M++b++a) Ae AU ?_|refine aF (l:=pre++((y::r).reverse++x::(M++b))++a) (A:=pre++r.reverse) (x:=y) (B:=x::(M++b++a)) Ae AU ?_|refine zc (D x y s (m y Ae)) ?_|refine dB8 rfl rfl ?_|refine zS ?_|refine zl (λd=>?_) (λd=>?_))
     ·refine⟨(r,y::M),?_,?_,?_⟩
      ·refine dV ?_ ?_ ?_ ?_
       all_goals repeat' (first|exact trivial|refine And.intro ?_ ?_|with_reducible rfl|exact(λh=>Ah)|exact QH _|omega|exact rfl)
       ·show List.set (List.set (List.map rgV (pre++((y::r).reverse++x::(M++b))++a)) _ (rgV y)) _ (rgV x)=List.map rgV (pre++(r.reverse++x::(y::M++b))++a)
        rw[show pre++((y::r).reverse++x::(M++b))++a=(pre++(y::r).reverse)++x::(M++b++a) from Ae,Rl,QW,set_mid AU];rw[show(pre++(y::r).reverse:List Rg)=(pre++r.reverse)++[y] from Ae,Rl,QW,Si,RY,TU,TM,set_mid AU];simp
       ·show(pre.length:Int)+(y::r).length-1=pre.length+r.length
        omega
      ·refine⟨by show r.length<=k;omega,λz v=>m z (by simp[show z∈r from v]),?_⟩
       show(insR c x j).reverse=(insR c x r).reverse++y::M;rw[i];simp[insR,d]
      ·show r.length< (y::r).length
       simp
     ·refine⟨k+1,?_,⟨Aa, .inl Aa⟩,Aa⟩
      rw[f];refine dV ?_ ?_ ?_ ?_;all_goals repeat' (first|exact trivial|refine And.intro ?_ ?_|with_reducible rfl|exact(λh=>Ah)|exact QH _|omega|exact rfl)
      ·show List.map rgV (pre++((y::r).reverse++x::(M++b))++a)=List.map rgV (pre++(insR c x j).reverse++List.drop (k+1) xs++a)
       rw[i,n];simp[insR,show¬c x y<0 from Aa]
  ·rw[TS e,Uy e]
   repeat' ((conv=>whnf);first|omega|refine zS ?_|refine zl (λd=>?_) (λd=>?_))
   refine cA7 ?_
   conv=>whnf
   refine⟨[],rfl,⟨⟨rfl,rfl,rfl,?_⟩,trivial⟩,rfl⟩;show List.map rgV (pre++(isR c xs).reverse++[] ++a)=List.map rgV (pre++qA c xs++a);simp[qA]
theorem eI2(a:cF2 g c Q)(xs:List Rg)(b:∀x∈xs,Q x)(d:xs.length<=100000):
 SpIO 329 [.own 75 (xs.map rgV),I 0,I xs.length, .fn g []] (.tup []) 75 ((qA c xs).map rgV):=by
 have:=eH7 rfl Tryz.func329 Ac Ac (fC7 a [] xs [] b AU);simp only[TM,QU,S9]at this;rw[show((0:Nat):Int)+(xs.length:Int)=xs.length from Aa]at this;exact this
def Qr(r:Rg):Prop:=r≠ []/\r.length<=1000000
def cR(a b:Rg):Int:=vcmp (a.getD 0 z0) (b.getD 0 z0)
theorem eR1(a b:Rg)(h:Qr a)(f:Qr b):Sp 248 [rgV a,rgV b] (I (cR a b)):=by
 refine zsp Tryz.func248 ?_;have d:0<a.length:=List.length_pos_iff.2 h.1;have e:0<b.length:=List.length_pos_iff.2 f.1
 repeat' ((conv=>whnf);first|refine aU3 (r:=a) (k:=0) rfl d ?_|refine aU3 (r:=b) (k:=0) rfl e ?_|refine zc (qI (a.getD 0 z0) (b.getD 0 z0)) ?_|refine zS ?_|fail)
 all_goals exact zE
theorem cR_ok:cF2 248 cR Qr:=λi j hi a=>eR1 i j hi a
def U64(n:Int):V:= .lit (.int .u64 n)
def lenT(n:Nat):Int:=match n with
 |0=>0
 |1=>1
 |2=>2
 |3=>2
 |_=>3
theorem eP4:Sp 232 [U64 0] (I 0):=by
 refine zsp Us ?_
 repeat' ((conv=>whnf);first|omega|refine fK (k:= .u8) (n:=0) (m:=0) Ai ?_|refine fU (QC Ac) ?_|refine fK (k:= .i64) (m:=0) Ac ?_|refine zS ?_|refine zT ?_ ?_<;>intro _|fail)
 all_goals conv=>whnf
 all_goals exact aG Ac
theorem eU1:Sp 298 [U64 0] (I 0):=by
 refine zsp U6 ?_
 repeat' ((conv=>whnf);first|refine zc eP4 ?_|refine zS ?_|fail)
 all_goals conv=>whnf
 all_goals exact aG rfl
theorem eM6:Sp 232 [U64 1] (I 1):=by
 refine zsp Us ?_
 repeat' ((conv=>whnf);first|omega|refine fK (k:= .u8) (n:=1) (m:=1) Ai ?_|refine fU (QC Ac) ?_|refine fK (k:= .i64) (m:=1) Ac ?_|refine zS ?_|refine zT ?_ ?_<;>intro _|fail)
 all_goals conv=>whnf
 all_goals exact aG Ac
theorem len_1:Sp 298 [U64 1] (I 1):=by
 refine zsp U6 ?_
 repeat' ((conv=>whnf);first|refine zc eM6 ?_|refine zS ?_|fail)
 all_goals conv=>whnf
 all_goals exact aG rfl
theorem eR3:Sp 232 [U64 2] (I 2):=by
 refine zsp Us ?_
 repeat' ((conv=>whnf);first|omega|refine fK (k:= .u8) (n:=2) (m:=2) Ai ?_|refine fU (QC Ac) ?_|refine fK (k:= .i64) (m:=2) Ac ?_|refine zS ?_|refine zT ?_ ?_<;>intro _|fail)
 all_goals conv=>whnf
 all_goals exact aG Ac
theorem len_2:Sp 298 [U64 2] (I 2):=by
 refine zsp U6 ?_
 repeat' ((conv=>whnf);first|refine zc eR3 ?_|refine zS ?_|fail)
 all_goals conv=>whnf
 all_goals exact aG rfl
theorem eT4:Sp 232 [U64 3] (I 2):=by
 refine zsp Us ?_
 repeat' ((conv=>whnf);first|omega|refine fK (k:= .u8) (n:=3) (m:=3) Ai ?_|refine fU (QC Ac) ?_|refine fK (k:= .i64) (m:=2) Ac ?_|refine zS ?_|refine zT ?_ ?_<;>intro _|fail)
 all_goals conv=>whnf
 all_goals exact aG Ac
theorem len_3:Sp 298 [U64 3] (I 2):=by
 refine zsp U6 ?_
 repeat' ((conv=>whnf);first|refine zc eT4 ?_|refine zS ?_|fail)
 all_goals conv=>whnf
 all_goals exact aG rfl
theorem eN1:Sp 232 [U64 4] (I 3):=by
 refine zsp Us ?_
 repeat' ((conv=>whnf);first|omega|refine fK (k:= .u8) (n:=4) (m:=4) Ai ?_|refine fU (QC Ac) ?_|refine fK (k:= .i64) (m:=3) Ac ?_|refine zS ?_|refine zT ?_ ?_<;>intro _|fail)
 all_goals conv=>whnf
 all_goals exact aG Ac
theorem len_4:Sp 298 [U64 4] (I 3):=by
 refine zsp U6 ?_
 repeat' ((conv=>whnf);first|refine zc eN1 ?_|refine zS ?_|fail)
 all_goals conv=>whnf
 all_goals exact aG rfl
theorem eM8:Sp 232 [U64 5] (I 3):=by
 refine zsp Us ?_
 repeat' ((conv=>whnf);first|omega|refine fK (k:= .u8) (n:=5) (m:=5) Ai ?_|refine fU (QC Ac) ?_|refine fK (k:= .i64) (m:=3) Ac ?_|refine zS ?_|refine zT ?_ ?_<;>intro _|fail)
 all_goals conv=>whnf
 all_goals exact aG Ac
theorem len_5:Sp 298 [U64 5] (I 3):=by
 refine zsp U6 ?_
 repeat' ((conv=>whnf);first|refine zc eM8 ?_|refine zS ?_|fail)
 all_goals conv=>whnf
 all_goals exact aG rfl
theorem eP5:Sp 232 [U64 6] (I 3):=by
 refine zsp Us ?_
 repeat' ((conv=>whnf);first|omega|refine fK (k:= .u8) (n:=6) (m:=6) Ai ?_|refine fU (QC Ac) ?_|refine fK (k:= .i64) (m:=3) Ac ?_|refine zS ?_|refine zT ?_ ?_<;>intro _|fail)
 all_goals conv=>whnf
 all_goals exact aG Ac
theorem len_6:Sp 298 [U64 6] (I 3):=by
 refine zsp U6 ?_
 repeat' ((conv=>whnf);first|refine zc eP5 ?_|refine zS ?_|fail)
 all_goals conv=>whnf
 all_goals exact aG rfl
theorem len_any(n:Nat)(h:n<=6):∃b,Sp 298 [U64 (n:Int)] (I b):=by
 match n,h with
 |0,_=>exact⟨_,eU1⟩
 |1,_=>exact⟨_,len_1⟩
 |2,_=>exact⟨_,len_2⟩
 |3,_=>exact⟨_,len_3⟩
 |4,_=>exact⟨_,len_4⟩
 |5,_=>exact⟨_,len_5⟩
 |6,_=>exact⟨_,len_6⟩
theorem dY6{g:FuncId}{c:Rg->Rg->Int}{Q:Rg->Prop}(b:cF2 g c Q)(xs:List Rg)(d:∀x∈xs,Q x)(e:xs.length<=12)(a:Int):
 SpIO 297 [.own 75 (xs.map rgV),I 0,I xs.length,I a, .fn g []] (.tup []) 75 ((qA c xs).map rgV):=by
 refine eH7 rfl Tryz.func297 Ac Ac ?_;have hi:=eI2 b xs d Aa
 repeat' ((conv=>whnf);first|refine zS ?_|fail)
 refine lD (A:=Unit) (λ_=>mkSt [(0, .arr 0 0),(1,I 0),(2,I xs.length),(3,I a),(4, .fn g []),(10, .lit (.bool true)),(11, .lit (.bool true))] [] [(0,⟨0, .own,75,xs.map rgV⟩)]) (λ_=>True) (λ_=>0) () ?_ trivial (λ_ _=>?_)
 ·exact zj
 repeat' ((conv=>whnf);first|omega|(refine aQ2 (hi) rfl rfl ?_ rfl rfl ?_;focus ((repeat' (first|exact trivial|refine And.intro ?_ ?_|with_reducible rfl|exact(λh=>Ah)|exact rfl));done))|refine zS ?_|refine zT ?_ ?_<;>intro _|fail)
 all_goals conv=>whnf
 exact O1
theorem u64_in{n:Int}(h:0<=n/\n<=1000000):IntKind.u64.wrap n=n:=by
 exact Q8
theorem cR4{g:FuncId}{c:Rg->Rg->Int}{Q:Rg->Prop}(f:cF2 g c Q)(xs:List Rg)(i:∀x∈xs,Q x)(j:xs.length<=6):
 SpIO 247 [.own 75 (xs.map rgV), .fn g []] (.tup []) 75 ((qA c xs).map rgV):=by
 refine eH7 rfl Tryz.func247 Ac Ac ?_;have a:(xs.map rgV).length=xs.length:=Ae;obtain⟨b,e⟩:=len_any xs.length j;have d:=dY6 f xs i Aa b
 rw[<-a]at e d
 repeat' ((conv=>whnf);first|refine fK (k:= .u64) (n:=((xs.map rgV).length:Int)) (m:=((xs.map rgV).length:Int)) (u64_in Aa) ?_|refine zc e ?_|(refine aQ2 (d) rfl rfl ?_ rfl rfl ?_;focus ((repeat' (first|exact trivial|refine And.intro ?_ ?_|with_reducible rfl|exact(λh=>Ah)|exact rfl));done))|refine zS ?_|fail)
 all_goals conv=>whnf
 exact O1
theorem dT5(g:FuncId):Sp 329 [nilV,I 0,I 0, .fn g []] (.tup []):=by
 refine zsp Tryz.func329 ?_
 repeat' ((conv=>whnf);first|refine zS ?_|fail)
 refine lD (A:=Unit) (λ_=>mkSt [(1,I 0),(2,I 0),(8,I 1)] [] []) (λ_=>True) (λ_=>0) () ?_ trivial (λ_ _=>?_)
 ·exact zj
 repeat' ((conv=>whnf);first|omega|refine zS ?_|refine zT ?_ ?_<;>intro _|fail)
 all_goals conv=>whnf
 all_goals exact⟨[],rfl,trivial,rfl⟩
theorem dK0(g:FuncId)(a:Int):Sp 297 [nilV,I 0,I 0,I a, .fn g []] (.tup []):=by
 refine zsp Tryz.func297 ?_
 repeat' ((conv=>whnf);first|refine zS ?_|fail)
 refine lD (A:=Unit) (λ_=>mkSt [(0,nilV),(1,I 0),(2,I 0),(3,I a),(4, .fn g [])] [] []) (λ_=>True) (λ_=>0) () ?_ trivial (λ_ _=>?_)
 ·exact zj
 repeat' ((conv=>whnf);first|omega|refine zc (dT5 g) ?_|refine zS ?_|refine zT ?_ ?_<;>intro _|fail)
 all_goals conv=>whnf
 all_goals exact⟨[],rfl,trivial,rfl⟩
theorem cZ9(g:FuncId):Sp 247 [nilV, .fn g []] (.tup []):=by
 refine zsp Tryz.func247 ?_
 repeat' ((conv=>whnf);first|refine fK (k:= .u64) (n:=0) (m:=0) Ai ?_|refine zc eU1 ?_|refine zc (dK0 g 0) ?_|refine zS ?_|fail)
 all_goals conv=>whnf
 all_goals exact⟨[],rfl,trivial,rfl⟩
theorem dW3{r:Rg}(h:dM r)(b:r.length<=1000000):Qr (gQ r):=by
 rw[bJ7 h];have a:=h.1;have e:(wL r).length=r.length:=by unfold wL;rw[QG,Rz,QL];omega
 refine⟨λq=>?_,Aa⟩;rw[q]at e;simp at e;omega
def wW(s:Sh):List Rg:=qA cR (s.holes.map gQ)
def qO(s:Sh):Sh:=open Classical in if bG s then⟨gQ s.outer,wW s⟩else sh0
theorem aN9{s:Sh}(h:bG s):qO s=⟨gQ s.outer,wW s⟩:=Q9 h
theorem bH5{s:Sh}(h:¬bG s):qO s=sh0:=Q5 h
def canSt(s:Sh)(D:List Rg):St:=match D with
 | [] =>mkSt [(1, .box 1 0),(2, .box 2 0),(3, .box 3 0),(15, .sl (s.holes.map rgV)),(16,I s.holes.length),(17,I 0)] [(1,(shV s).cells),(2,(shV sh0).cells),(3,[rgV (gQ s.outer),nilV])] []
 |d::D=>mkSt [(1, .box 1 0),(2, .box 2 0),(3, .box 3 0),(15, .sl (s.holes.map rgV)),(16,I s.holes.length),(17,I ((D.length:Int)+1))] [(1,(shV s).cells),(2,(shV sh0).cells),(3,[rgV (gQ s.outer), .arr 26 D.length])] [(26,⟨D.length, .own,75,((d::D).map gQ).map rgV⟩)]
theorem aU9(s:Sh)(j:gV s):Sp 204 [shV s] (shV (qO s)):=by
 refine zsp Tryz.func204 ?_;have v:=aN9 (s:=s);have E:=bH5 (s:=s)
 generalize qO s=A at*;have w:(s.holes.map rgV).length=s.holes.length:=Ae
 repeat' ((conv=>whnf);first|refine zc (kK s j) ?_|refine zc (aU6 s.outer j.1) ?_|refine zS ?_|refine zd (λk=>?_) (λk=>?_))
 all_goals conv=>whnf
 ·rw[v k]
  have f:=k;unfold bG at f;obtain⟨H,m,_,_⟩:=f
  have C:∀x∈s.holes.map gQ,Qr x:=λx z=>by
   obtain⟨r,q,rfl⟩:=QZ.1 z;exact dW3 (m r (SB _ q)) (j.2.2 r q)
  have F:(s.holes.map gQ).length=s.holes.length:=Ae;refine aU (A:=List Rg) (B:=List Rg) (λD R=>canSt s D) (λD R=>s.holes=D++R) (λD R=>R.length) [] s.holes ?_ rfl (λD R hp=>?_)
  ·exact IE
  cases R with
  |nil=>
   have e:D=s.holes:=Ad;subst e;clear hp
   cases c:s.holes with
   |nil=>
    have b:wW s=[] :=by unfold wW;rw[c];rfl
    rw[b];have J:s.holes.length=0:=by rw[c];rfl
    repeat' ((conv=>whnf);first|omega|refine zc (cZ9 248) ?_|refine zS ?_|refine zl (λa=>?_) (λa=>?_))
    all_goals conv=>whnf
    exact Ns
   |cons d D=>
    have o:(d::D).length=D.length+1:=rfl;have i:=cR4 cR_ok ((d::D).map gQ) (by rw[<-c];exact C) (by rw[<-c];omega)
    have b:wW s=qA cR ((d::D).map gQ):=by unfold wW;rw[c]
    rw[b];generalize qA cR ((d::D).map gQ)=Z at i;have t:s.holes.length=D.length+1:=by rw[c];rfl
    repeat' ((conv=>whnf);first|omega|(refine aQ2 (i) rfl rfl ?_ rfl rfl ?_;focus ((repeat' (first|exact trivial|refine And.intro ?_ ?_|with_reducible rfl|exact(λh=>Ah)|exact rfl));done))|refine zS ?_|refine zl (λa=>?_) (λa=>?_))
    all_goals conv=>whnf
    exact Ns
  |cons h R=>
   have n:=aO hp;have y:h.length<=1000000:=j.2.2 h Ad
   have g:=aU6 h y
   cases D with
   |nil=>
    have G:([] :List Rg).length=0:=rfl
    repeat' ((conv=>whnf);first|omega|refine aF (l:=s.holes) (A:=[]) (x:=h) (B:=R) hp Aa ?_|refine zc g ?_|refine gX (QC rfl) (dA rfl) (QC rfl) ?_|refine zS ?_|refine zl (λa=>?_) (λa=>?_))
    all_goals conv=>whnf
    refine⟨([h],R),?_,hp,Ae⟩;show Le T _ (mkSt [(1, .box 1 0),(2, .box 2 0),(3, .box 3 0),(15, .sl (s.holes.map rgV)),(16,I s.holes.length),(17,I (0+1))] [(1,(shV s).cells),(2,(shV sh0).cells),(3,[rgV (gQ s.outer), .arr 26 0])] [(26,⟨0, .own,75,[rgV (gQ h)]⟩)]);exact zj
   |cons d D=>
    have G:(d::D).length=D.length+1:=rfl;have u:(((d::D).map gQ).map rgV).length=D.length+1:=Ae
    repeat' ((conv=>whnf);first|omega|refine aF (l:=s.holes) (A:=d::D) (x:=h) (B:=R) hp Aa ?_|refine zc g ?_|refine iH rfl (.inl rfl) rfl (QC rfl) (dA rfl) (show(((d::D).map gQ).map rgV).length+1<=1000000000 from Aa) ?_|refine zS ?_|refine zl (λa=>?_) (λa=>?_))
    all_goals conv=>whnf
    refine⟨(d::D++[h],R),?_,Ad,Ae⟩;show Le T _ (mkSt [(1, .box 1 0),(2, .box 2 0),(3, .box 3 0),(15, .sl (s.holes.map rgV)),(16,I s.holes.length),(17,I (((D++[h]).length:Int)+1))] [(1,(shV s).cells),(2,(shV sh0).cells),(3,[rgV (gQ s.outer), .arr 26 (D++[h]).length])] [(26,⟨(D++[h]).length, .own,75,(((d::D)++[h]).map gQ).map rgV⟩)]);rw[show(((d::D)++[h]).map gQ).map rgV=((d::D).map gQ).map rgV++[rgV (gQ h)] from Ae,QG,QK];exact zj
 ·rw[E k]
  exact Ns
end Go.Proofs.Led
