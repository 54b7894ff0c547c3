/-
  Shapes whose edges meet in one of some ways, walked.
-/
import Derived.Test.YtdjgbagnajikeaaGreatDoorB5
set_option linter.unusedVariables false
set_option linter.unusedSimpArgs false
set_option maxRecDepth 100000
set_option maxHeartbeats 4000000
noncomputable section
namespace Go.Proofs.Led
open Go Go.Proofs Go.Ab
theorem fst_eq{n:Int}{D R:List Int}(h:∀y∈D,¬n=y):fst (fun y=>n=y) (D++n::R)=D.length:=wH (fun y hy=>by rw[dW.2 (h y hy)];rfl) (by rw[dH.2 rfl];rfl)
theorem bM4(l:List Int)(n:Int)(hl:l.length<=1000000):Sp 338 [.sl (l.map I),I n] (I (fstI (fun y=>n=y) l)):=by
 refine zsp Tryz.func338 ?_;have hll:(l.map I).length=l.length:=Ae
 repeat' ((conv=>whnf);first|refine zS ?_|fail)
 refine aU (A:=List Int) (B:=List Int) (fun D R=>mkSt [(0, .sl (l.map I)),(1,I n),(6, .sl (l.map I)),(7,I l.length),(8,I D.length)] [] []) (fun D R=>l=D++R/\∀y∈D,¬n=y) (fun D R=>R.length) [] l ?_ ⟨rfl,Ae⟩ (fun D R hp=>?_)
 ·exact zj
 obtain⟨hp,hD⟩:=hp
 cases R with
 |nil=>
  have hlen:l.length=D.length:=Af
  repeat' ((conv=>whnf);first|(exfalso;omega)|refine zS ?_|refine zl (fun hlt=>?_) (fun hlt=>?_))
  all_goals conv=>whnf
  refine aG ?_;unfold fstI;rw[if_neg (iO.2 (by rw[hp,List.append_nil];exact hD))]
 |cons y R=>
  have hlen:=aO hp
  repeat' ((conv=>whnf);first|(exfalso;omega)|refine zS ?_|refine zl (fun hlt=>?_) (fun hlt=>?_)|refine ze (fun heq=>?_) (fun heq=>?_))
  all_goals conv=>whnf
  ·subst heq
   refine aG ?_;unfold fstI;rw[hp,fst_eq hD,if_pos Ae]
  ·refine⟨(D++[y],R),?_,⟨Af,fun z hz=>?_⟩,Ae⟩
   ·exact Hl
   ·rcases List.mem_append.1 hz with hz|hz
    ·exact hD z hz
    ·rw[List.mem_singleton.1 hz];assumption
theorem dK5(l:List Int)(n:Int)(hl:l.length<=1000000):Sp 301 [.sl (l.map I),I n] (DB (n∈l)):=by
 refine zsp Tryz.func301 ?_
 repeat' ((conv=>whnf);first|refine zc (bM4 l n hl) ?_|refine zS ?_|fail)
 all_goals conv=>whnf
 all_goals refine aA (le_dec ?_)
 have h:=iO (Q:=fun y=>n=y) (l:=l);unfold fstI;constructor
 ·intro h0
  split at h0
  ·rename_i hlt
   exact Classical.byContradiction fun hn=>(h.2 (fun m hm hq=>hn (by rw[hq];exact hm))) hlt
  ·omega
 ·intro hm
  split
  ·omega
  ·rename_i hlt
   exact(h.1 hlt n hm rfl).elim
theorem bV2{s:Sh}(hs:gV s)(h7:s.holes.length<=6):(aC0 s).length<=7000000:=bC1 hs h7 (D:=rings s) (R:=[]) Ae
def rJ(a b:Sh)(ways:List Int):Prop:=∃x∈aC0 a,∃y∈aC0 b,dG x y∈ways
theorem bX6(a b:Sh)(ways:List Int)(ha:gV a)(ha7:a.holes.length<=6)(hb:gV b)(hb7:b.holes.length<=6)(hw:ways.length<=1000000):Sp 251 [shV a,shV b, .sl (ways.map I)] (DB (rJ a b ways)):=by
 refine zsp Tryz.func251 ?_;have hea:=aV8 a ha ha7;have heb:=aV8 b hb hb7
 have hla:=bV2 ha ha7;have hlb:=bV2 hb hb7
 generalize hP:rJ a b ways=P;have hr:P↔rJ a b ways:=G7;clear hP;unfold rJ at hr;generalize aC0 a=A at*;generalize aC0 b=B at*
 repeat' ((conv=>whnf);first|refine zc heb ?_|refine zc hea ?_|refine zS ?_|fail)
 conv=>whnf
 refine aU (A:=List Sg) (B:=List Sg) (fun D R=>mkSt [(2, .sl (ways.map I)),(7, .lit (.bool false)),(8, .arr 14 0),(16, .arr 16 0),(17,I A.length),(18,I D.length)] [] [(14,⟨0, .own,270,B.map sgV⟩),(16,⟨0, .own,270,A.map sgV⟩)]) (fun D R=>A=D++R/\∀x∈D,∀y∈B,¬dG x y∈ways) (fun D R=>R.length) [] A ?_ ⟨rfl,Ae⟩ (fun D R hp=>?_)
 ·exact Hf
 obtain⟨hp,hD⟩:=hp
 cases R with
 |nil=>
  have hlen:A.length=D.length:=Af
  repeat' ((conv=>whnf);first|(exfalso;omega)|refine zS ?_|refine zT ?_ ?_<;>intro _|fail)
  all_goals conv=>whnf
  refine aA (aC ?_);rw[hr,hp,List.append_nil];rintro⟨x,hx,y,hy,hm⟩;exact hD x hx y hy hm
 |cons x R=>
  have hlen:=aO hp
  repeat' ((conv=>whnf);first|(exfalso;omega)|refine dS rfl rfl CB ?_|refine aF (l:=A) (A:=D) (x:=x) (B:=R) hp Aa ?_|refine zS ?_|refine zT ?_ ?_<;>intro _|fail)
  refine aU (A:=List Sg) (B:=List Sg) (fun E S=>mkSt [(2, .sl (ways.map I)),(7, .lit (.bool false)),(8, .arr 14 0),(10, .box 10 0),(16, .arr 16 0),(17,I A.length),(18,I D.length),(22, .arr 14 0),(23,I B.length),(24,I E.length)] [(10,(sgV x).cells)] [(14,⟨0, .own,270,B.map sgV⟩),(16,⟨0, .own,270,A.map sgV⟩)]) (fun E S=>B=E++S/\∀y∈E,¬dG x y∈ways) (fun E S=>S.length) [] B ?_ ⟨rfl,Ae⟩ (fun E S hq=>?_)
  ·exact Hf
  obtain⟨hq,hE⟩:=hq
  cases S with
  |nil=>exact KN
  |cons y S=>
   have hlen2:=aO hq
   repeat' ((conv=>whnf);first|(exfalso;omega)|refine dS rfl rfl CG ?_|refine aF (l:=B) (A:=E) (x:=y) (B:=S) hq Aa ?_|refine zc (aS9 x y) ?_|refine zc (dK5 ways (dG x y) hw) ?_|refine zS ?_|refine zT ?_ ?_<;>intro _|fail)
   all_goals conv=>whnf
   all_goals first
    |exact aA (fE (hr.2 ⟨x,Af,y,AO,Ad⟩))
    |skip
   exact Ob
def arN(i:Nat)(r:Rg)(k:Nat):Vc:=if 0<i then mY r k else iU r k
def arL(i:Nat)(r:Rg)(k:Nat):Vc:=if 0<i then iU r k else mY r k
def dJ(i:Nat)(r:Rg)(p:Vc)(k:Nat):Option Sg:=
 open Classical in if r.getD k z0=p then some (vsub (arN i r k) p,vsub (arL i r k) p)
 else if arN i r k≠p/\eX (r.getD k z0,arN i r k) p then some (vsub (arN i r k) p,vsub (r.getD k z0) p)else none
def qY(i:Nat)(r:Rg)(p:Vc):Option Sg:=(List.range r.length).findSome? (dJ i r p)
def nR(p:Vc):Nat->List Rg->Option Sg
 |_,[] =>none
 |i,r::R=>(qY i r p).or (nR p (i+1) R)
def jE(s:Sh)(p:Vc):Sg:=(nR p 0 (rings s)).getD ((0,0),(0,0))
theorem bZ2{i:Nat}{r:Rg}{p:Vc}(h:∀k,k<r.length->dJ i r p k=none):qY i r p=none:=by
 unfold qY;rw[List.findSome?_eq_none_iff];intro k hk;exact h k (List.mem_range.1 hk)
theorem range_split{n k:Nat}(h:k<n):List.range n=List.range k++k::(List.range n).drop (k+1):=by
 apply List.ext_getElem?;intro j;by_cases h1:j<k
 ·rw[List.getElem?_append_left (by simpa using h1),List.getElem?_range Aa,List.getElem?_range h1]
 ·rw[List.getElem?_append_right A8,List.length_range]
  by_cases h2:j=k
  ·subst h2;simp[h]
  ·obtain⟨t,ht⟩:∃t,j-k=t+1:=⟨j-k-1,Aa⟩
   rw[ht,List.getElem?_cons_succ,List.getElem?_drop];congr 1;omega
theorem bZ8{i:Nat}{r:Rg}{p:Vc}{k:Nat}{x:Sg}(hk:k<r.length)(h:∀j,j<k->dJ i r p j=none)(hx:dJ i r p k=some x):qY i r p=some x:=by
 unfold qY;rw[range_split hk,List.findSome?_append,List.findSome?_eq_none_iff.2 (fun j hj=>h j (List.mem_range.1 hj)),List.findSome?_cons,hx];rfl
theorem cU6{p:Vc}{i:Nat}{r:Rg}{R:List Rg}{x:Sg}(h:qY i r p=some x):nR p i (r::R)=some x:=by
 rw[nR,h];rfl
theorem cR6{p:Vc}{i:Nat}{r:Rg}{R:List Rg}(h:qY i r p=none):nR p i (r::R)=nR p (i+1) R:=by
 rw[nR,h];rfl
theorem aW8(s:Sh)(p:Vc)(hs:gV s)(h7:s.holes.length<=6):Sp 305 [shV s,vcV p] (sgV (jE s p)):=by
 refine zsp Tryz.func305 ?_;have hrs:=aW6 s hs;have hmem:∀r∈rings s,r.length<=1000000:=fun r hr=>hs.mem hr
 have hlr:(rings s).length<=7:=by unfold rings;simp;omega
 have hX:∀x:Sg,nR p 0 (rings s)=some x->sgV (jE s p)=sgV x:=fun x h=>by unfold jE;rw[h];rfl
 have hX0:nR p 0 (rings s)=none->sgV (jE s p)=sgV ((0,0),(0,0)):=fun h=>by unfold jE;rw[h];rfl
 generalize sgV (jE s p)=X at*;generalize rings s=rs at*;have hmm:(rs.map rgV).length=rs.length:=Ae
 repeat' ((conv=>whnf);first|refine zS ?_|fail)
 refine aU (A:=List Rg) (B:=List Rg) (fun D R=>mkSt [(2, .box 2 0),(3, .box 3 0),(4, .box 4 0),(13, .arr 13 0),(14,I rs.length),(15,I D.length)] [(2,(shV s).cells),(3,(vcV p).cells),(4,[I 0,I 0,I 0,I 0])] [(13,⟨0, .own,75,rs.map rgV⟩)]) (fun D R=>rs=D++R/\nR p 0 rs=nR p D.length R) (fun D R=>R.length) [] rs ?_ ⟨rfl,rfl⟩ (fun D R hp=>?_)
 ·exact GV
 obtain⟨hp,hL⟩:=hp
 cases R with
 |nil=>
  have hlen:rs.length=D.length:=Af;have hx:=hX0 (by rw[hL];rfl)
  subst hx
  repeat' ((conv=>whnf);first|(exfalso;omega)|refine zS ?_|refine zT ?_ ?_<;>intro _|fail)
  all_goals conv=>whnf
  all_goals exact zE
 |cons r R=>
  have hlen:=aO hp;have hrl:=hmem r Af
  have hrm:(r.map vcV).length=r.length:=Ae
  repeat' ((conv=>whnf);first|(exfalso;omega)|refine dS rfl rfl Cf ?_|refine zS ?_|refine zT ?_ ?_<;>intro _|fail)
  refine lD (A:=Nat) (fun k=>mkSt [(2, .box 2 0),(3, .box 3 0),(4, .box 4 0),(5,I D.length),(6,rgV r),(13, .arr 13 0),(14,I rs.length),(15,I D.length),(20,rgV r),(21,I r.length),(22,I k)] [(2,(shV s).cells),(3,(vcV p).cells),(4,[I 0,I 0,I 0,I 0])] [(13,⟨0, .own,75,rs.map rgV⟩)]) (fun k=>k<=r.length/\∀j,j<k->dJ D.length r p j=none) (fun k=>r.length-k) 0 ?_ ⟨Aa,fun j hj=>absurd hj Aa⟩ (fun k hk=>?_)
  ·exact zj
  obtain⟨hk,hN⟩:=hk;by_cases hkr:k<r.length
  ·have hm1:(k+1)% r.length<r.length:=Nat.mod_lt _ Aa
   have hm2:(k+r.length-1)% r.length<r.length:=Nat.mod_lt _ Aa;have hF:∀x,dJ D.length r p k=some x->nR p 0 rs=some x:=fun x hx=>by rw[hL];exact cU6 (bZ8 hkr hN hx)
   by_cases h0:0<D.length
   ·have eN:arN D.length r k=mY r k:=if_pos h0
    have eL:arL D.length r k=iU r k:=if_pos h0
    repeat' ((conv=>whnf);first|(exfalso;omega)|refine cC0 [(6,999),(27,999),(30,999),(32,999),(33,999),(35,999),(37,999),(41,999),(43,999),(44,999),(9,9),(10,10)] Aq Ac ?_|refine uM Aa ?_|refine aB (l:=r) (by rw[kS (a:=k+1) (by omega)];omega) ?_|refine aB (l:=r) EQ ?_|refine sW (k:=(k+1)% r.length) (kS Aa) hm1 ?_|refine sW (k:=(k+r.length-1)% r.length) (kS Aa) hm2 ?_|refine sW (k:=k) Aa hkr ?_|refine aT1 ?_|refine aB4 (fun hv=>?_) (fun hv=>?_)|refine zc (fF (mY r k) p) ?_|refine zc (fF (iU r k) p) ?_|refine zc (fF (r.getD k z0) p) ?_|refine zc (yS (r.getD k z0,mY r k) p) ?_|refine zS ?_|refine zT ?_ ?_<;>intro _|fail)
    all_goals conv=>whnf
    ·have hx:=hX (vsub (mY r k) p,vsub (iU r k) p) (hF _ EL)
     subst hx;all_goals exact zE
    ·exact Iz
    ·have hx:=hX (vsub (mY r k) p,vsub (r.getD k z0) p) (hF _ BO)
     subst hx;all_goals exact zE
    ·exact Iw
   ·have eN:arN D.length r k=iU r k:=if_neg h0
    have eL:arL D.length r k=mY r k:=if_neg h0
    repeat' ((conv=>whnf);first|(exfalso;omega)|refine cC0 [(6,999),(27,999),(30,999),(32,999),(33,999),(35,999),(37,999),(41,999),(43,999),(44,999),(9,9),(10,10)] Aq Ac ?_|refine uM Aa ?_|refine aB (l:=r) (by rw[kS (a:=k+1) (by omega)];omega) ?_|refine aB (l:=r) EQ ?_|refine sW (k:=(k+1)% r.length) (kS Aa) hm1 ?_|refine sW (k:=(k+r.length-1)% r.length) (kS Aa) hm2 ?_|refine sW (k:=k) Aa hkr ?_|refine aT1 ?_|refine aB4 (fun hv=>?_) (fun hv=>?_)|refine zc (fF (iU r k) p) ?_|refine zc (fF (mY r k) p) ?_|refine zc (fF (r.getD k z0) p) ?_|refine zc (yS (r.getD k z0,iU r k) p) ?_|refine zS ?_|refine zT ?_ ?_<;>intro _|fail)
    all_goals conv=>whnf
    ·have hx:=hX (vsub (iU r k) p,vsub (mY r k) p) (hF _ EL)
     subst hx;all_goals exact zE
    ·exact Iz
    ·have hx:=hX (vsub (iU r k) p,vsub (r.getD k z0) p) (hF _ BO)
     subst hx;all_goals exact zE
    ·exact Iw
  ·have e:k=r.length:=by omega
   subst e
   repeat' ((conv=>whnf);first|(exfalso;omega)|refine zS ?_|refine zT ?_ ?_<;>intro _|fail)
   all_goals conv=>whnf
   refine⟨(D++[r],R),?_,⟨Af,by rw[hL,cR6 (bZ2 hN)];simp⟩,Ae⟩
   exact Ll
abbrev eU0(g:FuncId)(Q:Sg->Sg->Prop):Prop:=∀x y,Sp g [sgV x,sgV y] (DB (Q x y))
def touchAt(a b:Sh)(Q:Sg->Sg->Prop)(p:Vc):Prop:=lJ a p=1->lJ b p=1->Q (jE a p) (jE b p)
def bD2(a b:Sh)(Q:Sg->Sg->Prop):Prop:=∀p∈rV a++rV b,touchAt a b Q p
theorem cZ6{g:FuncId}{Q:Sg->Sg->Prop}(hg:eU0 g Q)(a b:Sh)(ha:gV a)(ha7:a.holes.length<=6)(hb:gV b)(hb7:b.holes.length<=6):Sp 253 [shV a,shV b, .fn g []] (DB (bD2 a b Q)):=by
 refine zsp Tryz.func253 ?_;have hva:=aJ3 a ha ha7;have hvb:=aJ3 b hb hb7
 have hla:=cH3 ha ha7;have hlb:=cH3 hb hb7
 change Sp _ _ (.own 97 ((rV a).map vcV))at hva;change Sp _ _ (.own 97 ((rV b).map vcV))at hvb;generalize hP:bD2 a b Q=P;have hr:P↔∀p∈rV a++rV b,touchAt a b Q p:=by rw[<-hP];exact Iff.rfl
 clear hP;generalize rV a=A at*;generalize rV b=B at*;have hAm:(A.map vcV).length=A.length:=Ae;have hBm:(B.map vcV).length=B.length:=Ae
 repeat' ((conv=>whnf);first|refine zc hva ?_|refine zc hvb ?_|refine iH rfl (.inl rfl) rfl (of_decide_eq_true rfl) (aM5 _) (show(A.map vcV).length+(B.map vcV).length<=1000000000 from Aa) ?_|refine zS ?_|fail)
 all_goals conv=>whnf
 have hCm:(A++B).length=A.length+B.length:=List.length_append;have hmap:A.map vcV++B.map vcV=(A++B).map vcV:=Ae
 generalize hC:A++B=C at*;have hCl:(C.map vcV).length=C.length:=Ae;refine aU (A:=List Vc) (B:=List Vc) (fun D R=>mkSt [(2, .fn g []),(3, .box 3 0),(4, .box 4 0),(13, .arr 10 1),(14,I C.length),(15,I D.length)] [(3,(shV a).cells),(4,(shV b).cells)] [(10,⟨1, .own,97,C.map vcV⟩)]) (fun D R=>C=D++R/\∀q∈D,touchAt a b Q q) (fun D R=>R.length) [] C ?_ ⟨rfl,Ae⟩ (fun D R hp=>?_)
 ·rw[<-hmap]
  refine dV ?_ ?_ ?_ ?_;all_goals repeat' (first|exact trivial|refine And.intro ?_ ?_|with_reducible rfl|exact(fun h=>Ag)|exact Nat.le_refl _|omega|exact rfl)
  all_goals (try rw[hmap,List.length_map])
 obtain⟨hp,hD⟩:=hp
 cases R with
 |nil=>
  have hlen:C.length=D.length:=Af
  repeat' ((conv=>whnf);first|(exfalso;omega)|refine zS ?_|refine zT ?_ ?_<;>intro _|fail)
  all_goals conv=>whnf
  refine aA (fE (hr.2 fun q hq=>?_));rw[hp,List.append_nil]at hq;exact hD q hq
 |cons q R=>
  have hlen:=aO hp;have ha1:=aD4 a q ha
  have hb1:=aD4 b q hb;have ha2:=aW8 a q ha ha7
  have hb2:=aW8 b q hb hb7;have hgg:=hg (jE a q) (jE b q)
  have hT:touchAt a b Q q↔(lJ a q=1->lJ b q=1->Q (jE a q) (jE b q)):=Iff.rfl;have hqC:q∈C:=Af
  repeat' ((conv=>whnf);first|(exfalso;omega)|refine dS rfl rfl (by show 0<=_/\_< ((C.map vcV).length:Int);omega) ?_|refine aF (l:=C) (A:=D) (x:=q) (B:=R) hp Aa ?_|refine zc ha1 ?_|refine zc hb1 ?_|refine zc ha2 ?_|refine zc hb2 ?_|refine zc hgg ?_|refine zS ?_|refine zT ?_ ?_<;>intro _|fail)
  all_goals conv=>whnf
  all_goals first
   |exact aA (aC (fun h=>absurd ((hr.1 h) q hqC Ad Ad) Ad))
   |skip
  all_goals refine⟨(D++[q],R),?_,⟨Af,fun z hz=>?_⟩,Ae⟩
  all_goals first
   |(rcases List.mem_append.1 hz with hz|hz
     ·exact hD z hz
     ·rw[List.mem_singleton.1 hz]
      exact fun h1 h2=>by first|assumption|exact absurd h1 (by assumption)|exact absurd h2 (by assumption))
   |skip
  all_goals simp only[List.length_append,List.length_singleton]
  ·exact zj
  ·exact zj
  ·exact zj
def aO3(c s:Sh):Prop:=¬rJ c s [2]/\¬bL9 s c 0/\¬bL9 c s 2/\bD2 c s (fun x y=>¬jH y (x.2,x.1))
theorem dP2(x y:Sg):Sp 254 [sgV x,sgV y] (DB (¬jH y (x.2,x.1))):=by
 refine zsp Tryz.func254 ?_;have h1:=bX9 x;have h2:=cT5 y (x.2,x.1)
 repeat' ((conv=>whnf);first|refine zc h1 ?_|refine zc h2 ?_|refine zS ?_|fail)
 all_goals conv=>whnf
 all_goals exact aA (aF6 dW)
theorem eS8:eU0 254 (fun x y=>¬jH y (x.2,x.1)):=fun x y=>dP2 x y
theorem cG3{s:Sh}(h:bG s):(rV s).length<=80:=by
 unfold rV;rw[List.length_flatten];exact h.2.2.1
theorem yB{s:Sh}(h:bG s):s.holes.length<=6:=h.1
theorem iT{s:Sh}(h:bG s):gV s:=by
 have h1:∀r∈rings s,r.length<=40:=fun r hr=>(h.2.1 r hr).2.1;refine⟨?_,?_,fun r hr=>?_⟩
 ·have:=h1 s.outer Be
  omega
 ·have:=h.1
  omega
 ·have:=h1 r (by unfold rings;simp[hr])
  omega
theorem cO1(c s:Sh)(hc:bG c)(hs:bG s):Sp 206 [shV c,shV s] (DB (aO3 c s)):=by
 refine zsp Tryz.func206 ?_;have v1:=cG3 hc;have v2:=cG3 hs
 have m1:=bX6 c s [2] (iT hc) (yB hc) (iT hs) (yB hs) Ah;have m2:=bK5 s c 0 (iT hs) (yB hs) (iT hc) Aa
 have m3:=bK5 c s 2 (iT hc) (yB hc) (iT hs) Aa;have m4:=cZ6 eS8 c s (iT hc) (yB hc) (iT hs) (yB hs)
 have hr:aO3 c s↔¬rJ c s [2]/\¬bL9 s c 0/\¬bL9 c s 2/\bD2 c s (fun x y=>¬jH y (x.2,x.1)):=Iff.rfl;generalize aO3 c s=P at*;generalize rJ c s [2] =p1 at*;generalize bL9 s c 0=p2 at*;generalize bL9 c s 2=p3 at*;generalize bD2 c s (fun x y=>¬jH y (x.2,x.1))=p4 at*
 repeat' ((conv=>whnf);first|refine zc m1 ?_|refine zc m2 ?_|refine zc m3 ?_|refine zc m4 ?_|refine zS ?_|refine zT ?_ ?_<;>intro _|fail)
 all_goals conv=>whnf
 all_goals first
  |exact aA (aC (fun h=>absurd Ad (hr.1 h).1))
  |exact aA (aC (fun h=>absurd Ad (hr.1 h).2.1))
  |exact aA (aC (fun h=>absurd Ad (hr.1 h).2.2.1))
  |exact aA (fQ ⟨fun h=>hr.2 ⟨Ad,Ad,Ad,h⟩,fun h=>(hr.1 h).2.2.2⟩)
  |skip
def lI(c s:Sh):Prop:=bG c/\bG s/\aO3 c s
def pO(c s:Sh):Int:=open Classical in if bG c/\bG s then 0 else 11
theorem aA6(c s:Sh)(hc:gV c)(hs:gV s):Sp 158 [shV c,shV s] (.tup [DB (lI c s),I (pO c s)]):=by
 refine zsp Tryz.func158 ?_;have m1:=kK c hc;have m2:=kK s hs
 by_cases h1:bG c
 ·by_cases h2:bG s
  ·have e1:DB (lI c s)=DB (aO3 c s):=congrArg (fun b=>V.lit (.bool b)) (fQ ⟨fun h=>h.2.2,fun h=>⟨h1,h2,h⟩⟩)
   have e2:pO c s=0:=if_pos ⟨h1,h2⟩;have m3:=cO1 c s h1 h2
   rw[e1,e2]
   repeat' ((conv=>whnf);first|(exfalso;contradiction)|refine zc m1 ?_|refine zc m2 ?_|refine zc m3 ?_|refine zS ?_|refine zT ?_ ?_<;>intro _|fail)
   all_goals exact zE
  ·have e1:DB (lI c s)= .lit (.bool false):=congrArg (fun b=>V.lit (.bool b)) (dW.2 (fun h=>h2 h.2.1))
   have e2:pO c s=11:=if_neg (fun h=>h2 h.2);rw[e1,e2]
   repeat' ((conv=>whnf);first|(exfalso;contradiction)|refine zc m1 ?_|refine zc m2 ?_|refine zS ?_|refine zT ?_ ?_<;>intro _|fail)
   all_goals exact zE
 ·have e1:DB (lI c s)= .lit (.bool false):=congrArg (fun b=>V.lit (.bool b)) (dW.2 (fun h=>h1 h.1))
  have e2:pO c s=11:=if_neg (fun h=>h1 h.1);rw[e1,e2]
  repeat' ((conv=>whnf);first|(exfalso;contradiction)|refine zc m1 ?_|refine zS ?_|refine zT ?_ ?_<;>intro _|fail)
  all_goals exact zE
def jA(c:Int):Prop:=(97<=c/\c<=122)\/(65<=c/\c<=90)
def isDigit(c:Int):Prop:=48<=c/\c<=57
def fG(c:Int):Prop:=jA c\/isDigit c\/c=95
def iM(s:ByteArray):Prop:=1<=s.size/\s.size<=16/\jA (byteAt s 0)/\∀i,i<s.size->fG (byteAt s i)
theorem dQ2(c:Int):fnVC T Tryz.prog Tryz.f141 [U c] (.lit (.bool (decB (jA c)))):=by
 repeat' ((conv=>whnf);first|refine zS ?_|refine zT ?_ ?_<;>intro _|fail)
 all_goals conv=>whnf
 all_goals refine aA ?_
 ·exact fE Fj
 ·refine le_dec ?_
  unfold jA;omega
 ·exact aC Fj
 ·refine le_dec ?_
  unfold jA;omega
 ·exact aC Fj
theorem aT4(c:Int):Sp 141 [U c] (.lit (.bool (decB (jA c)))):=zsp Tryz.func141 (dQ2 c)
theorem eD7(c:Int):fnVC T Tryz.prog Tryz.f187 [U c] (.lit (.bool (decB (isDigit c)))):=by
 repeat' ((conv=>whnf);first|refine zS ?_|refine zT ?_ ?_<;>intro _|fail)
 all_goals conv=>whnf
 all_goals refine aA ?_
 ·refine le_dec ?_
  unfold isDigit;omega
 ·exact aC (by unfold isDigit;omega)
theorem cX6(c:Int):Sp 187 [U c] (.lit (.bool (decB (isDigit c)))):=zsp Tryz.func187 (eD7 c)
theorem dX8(c:Int):fnVC T Tryz.prog Tryz.f143 [U c] (.lit (.bool (decB (fG c)))):=by
 repeat' ((conv=>whnf);first|refine zc (aT4 c) ?_|refine zc (cX6 c) ?_|refine zS ?_|refine zd (fun hd=>?_) (fun hd=>?_))
 all_goals conv=>whnf
 all_goals refine aA ?_
 ·exact fE (.inl hd)
 ·exact fE (.inr (.inl hd))
 ·rename_i h1
  refine sK ⟨fun h=> .inr (.inr h),fun h=>?_⟩;rcases h with h|h|h
  ·exact(h1 h).elim
  ·exact(hd h).elim
  ·exact h
theorem cR8(c:Int):Sp 143 [U c] (.lit (.bool (decB (fG c)))):=zsp Tryz.func143 (dX8 c)
def wh(p:Nat->Bool):Nat->Nat->Nat
 |0,i=>i
 |f+1,i=>if p i then wh p f (i+1)else i
theorem dG8{p:Nat->Bool}{f i:Nat}(h:p i=true):wh p (f+1) i=wh p f (i+1):=by rw[wh,if_pos h]
theorem dE4{p:Nat->Bool}{f i:Nat}(h:p i=false):wh p (f+1) i=i:=by rw[wh,if_neg (by simp[h])]
theorem cV4(p:Nat->Bool):∀f i,wh p f i=i+f↔∀j,i<=j->j<i+f->p j=true
 |0,i=>by simp[wh];omega
 |f+1,i=>by
  rw[wh];split
  ·rename_i h
   have:=cV4 p f (i+1);rw[show i+(f+1)=i+1+f from Aa,this];constructor
   ·intro h1 j hj hj2
    rcases Nat.eq_or_lt_of_le hj with rfl|hlt
    ·exact h
    ·exact h1 j hlt hj2
   ·intro h1 j hj hj2
    exact h1 j Aa hj2
  ·rename_i h
   constructor
   ·intro h1;omega
   ·intro h1;exact(h (h1 i (Nat.le_refl _) Aa)).elim
def whS(K:Int->Prop)(s:ByteArray)(i:Nat):Nat:=wh (fun j=>decB (K (byteAt s j))) (s.size-i) i
theorem dV7{g:FuncId}{Kd:Int->Prop}(hg:∀c,Sp g [U c] (.lit (.bool (decB (Kd c)))))(s:ByteArray)(i:Nat)(hs:s.size<=1000000000):
 fnVC T Tryz.prog Tryz.f142 [S s,I i, .fn g []] (I (whS Kd s i)):=by
 repeat' ((conv=>whnf);first|refine zS ?_|fail)
 refine lD (A:=Nat) (fun k=>mkSt [(0,S s),(1,I k),(2, .fn g [])] [] []) (fun k=>whS Kd s k=whS Kd s i) (fun k=>s.size-k) i ?_ rfl (fun k hk=>?_)
 ·exact zj
 ·change whS Kd s k=whS Kd s i at hk
  rcases Nat.lt_or_ge k s.size with hlt|hge
  ·obtain⟨f,hf⟩:∃f,s.size-k=f+1:=⟨s.size-k-1,Aa⟩
   have hks:whS Kd s k=wh (fun j=>decB (Kd (byteAt s j))) (f+1) k:=by unfold whS;rw[hf]
   repeat' ((conv=>whnf);first|(exfalso;omega)|refine zc (hg (byteAt s k)) ?_|refine zS ?_|refine zd (fun hd=>?_) (fun hd=>?_)|refine zl (fun hlt=>?_) (fun hlt=>?_))
   ·conv=>whnf
    refine⟨k+1,?_,?_,Aa⟩
    ·refine dV ?_ ?_ ?_ ?_
     all_goals repeat' (first|exact trivial|refine And.intro ?_ ?_|with_reducible rfl|exact(fun h=>Ag)|exact Nat.le_refl _|omega|exact rfl)
    ·show whS Kd s (k+1)=_
     rw[<-hk,hks,dG8 (dH.2 hd)];unfold whS;rw[show s.size- (k+1)=f from Aa]
   ·conv=>whnf
    refine aG ?_;rw[<-hk,hks,dE4 (dW.2 hd)]
  ·have hks:whS Kd s k=k:=by unfold whS;rw[show s.size-k=0 from Aa];rfl
   exact MX
theorem cQ3{g:FuncId}{Kd:Int->Prop}(hg:∀c,Sp g [U c] (.lit (.bool (decB (Kd c)))))(s:ByteArray)(i:Nat)(hs:s.size<=1000000000):
 Sp 142 [S s,I i, .fn g []] (I (whS Kd s i)):=zsp Tryz.func142 (dV7 hg s i hs)
theorem eL8(s:ByteArray):fnVC T Tryz.prog Tryz.f103 [S s] (.lit (.bool (decB (iM s)))):=by
 have hz:=dJ7 (s:=s);rcases Nat.lt_or_ge 16 s.size with hbig|hsm
 ·repeat' ((conv=>whnf);first|refine jI (fun heq=>?_) (fun heq=>?_)|(exfalso;omega)|refine zS ?_|refine zk (fun hle=>?_) (fun hle=>?_))
  all_goals conv=>whnf
  all_goals refine aA ?_
  all_goals exact aC (fun h=>by have:=h.2.1;omega)
 ·repeat' ((conv=>whnf);first|refine jI (fun heq=>?_) (fun heq=>?_)|(exfalso;omega)|refine cK2 ⟨Aa,by have:=mt hz.1 heq;omega⟩ ?_|refine zc (aT4 (byteAt s 0)) ?_|refine zc (cQ3 cR8 s 0 Aa) ?_|refine zS ?_|refine zd (fun hd=>?_) (fun hd=>?_)|refine zk (fun hle=>?_) (fun hle=>?_))
  all_goals conv=>whnf
  all_goals refine aA ?_
  ·exact aC (fun h=>by have:=h.1;have:=hz.2 heq;omega)
  ·refine sK ?_
   have hw:=cV4 (fun j=>decB (fG (byteAt s j))) s.size 0;have hs0:whS fG s 0=wh (fun j=>decB (fG (byteAt s j))) s.size 0:=rfl
   have hne:=mt hz.1 heq;exact LG
  ·exact aC (fun h=>hd h.2.2.1)
theorem aG6(s:ByteArray):Sp 103 [S s] (.lit (.bool (decB (iM s)))):=zsp Tryz.func103 (eL8 s)
def kZ(id:Int)(g h:ByteArray):Prop:=1<=id/\id<=1000000/\iM g/\iM h
theorem aI6(id:Int)(g h:ByteArray):Sp 154 [.agg [I id,S g,S h]] (DB (kZ id g h)):=by
 refine zsp Tryz.func154 ?_;have h1:=aG6 g;have h2:=aG6 h
 have hr:kZ id g h↔1<=id/\id<=1000000/\iM g/\iM h:=Iff.rfl;generalize kZ id g h=P at*;generalize iM g=p1 at*;generalize iM h=p2 at*
 repeat' ((conv=>whnf);first|refine zc h1 ?_|refine zc h2 ?_|refine zS ?_|refine zT ?_ ?_<;>intro _|fail)
 all_goals conv=>whnf
 all_goals first
  |exact aA (fQ ⟨fun h=>hr.2 ⟨Aa,Aa,Ad,h⟩,fun h=>(hr.1 h).2.2.2⟩)
  |exact aA (aC (fun h=>absurd (hr.1 h).2.2.1 Ad))
  |exact aA (aC (fun h=>by have:=hr.1 h;omega))
  |exact aA (le_dec ⟨fun h=>Aa,fun h=>by have:=hr.1 h;omega⟩)
theorem cS6(b:Bar):Sp 159 [barV b] (.agg ([I b.id,S b.grade,S b.heat] ++barC b)):=by
 refine zsp Tryz.func159 ?_;exact Nj
theorem aK4(s:jL):Sp 153 [zJ s] (.agg ([I s.id,S s.grade,S s.heat] ++aA7 s)):=by
 refine zsp Tryz.func153 ?_;exact Nj
theorem cT8{r:Rg}(hr:r≠ []):(wL r).length<=r.length+r.length:=by
 unfold wL;rw[List.length_append,List.length_drop,List.length_take];omega
theorem aU5{s:Sh}(h:bG s):gV (qO s):=by
 have hl:∀r∈rings s,(gQ r).length<=1000000:=fun r hr=>by
  obtain⟨h3,h40,_⟩:=h.2.1 r hr;rw[bJ7 (h.2.1 r hr)];have:=cT8 (r:=r) (fun e=>by rw[e]at h3;simp at h3)
  omega
 rw[aN9 h];refine⟨hl s.outer Be,?_,fun r hr=>?_⟩
 ·unfold wW
  rw[cX8,List.length_map];have:=h.1;omega
 ·unfold wW at hr
  rw[dB0]at hr;obtain⟨q,hq,rfl⟩:=List.mem_map.1 hr;exact hl q (by unfold rings;simp[hq])
def jV(s:Sh):Prop:=bG s/\s=qO s
theorem aD5(s:Sh)(hs:gV s):Sp 155 [shV s] (DB (jV s)):=by
 refine zsp Tryz.func155 ?_;have h1:=kK s hs;have h2:=aU9 s hs
 by_cases h:bG s
 ·have h3:=cQ8 s (qO s) hs (aU5 h)
  have e1:DB (jV s)=DB (s=qO s):=congrArg (fun b=>V.lit (.bool b)) (fQ ⟨fun h=>h.2,fun q=>⟨h,q⟩⟩);rw[e1]
  repeat' ((conv=>whnf);first|(exfalso;contradiction)|refine zc h1 ?_|refine zc h2 ?_|refine zc h3 ?_|refine zS ?_|refine zT ?_ ?_<;>intro _|fail)
  all_goals exact zE
 ·have e1:DB (jV s)= .lit (.bool false):=congrArg (fun b=>V.lit (.bool b)) (dW.2 (fun q=>h q.1))
  rw[e1];exact MZ
def dQ(v:Vc):Prop:=0<=min v.1 v.2/\max v.1 v.2<=1900
theorem mJ(v:Vc):Sp 157 [vcV v] (DB (dQ v)):=by
 refine zsp Tryz.func157 ?_;have hr:dQ v↔0<=min v.1 v.2/\max v.1 v.2<=1900:=Iff.rfl;generalize dQ v=P at*
 repeat' ((conv=>whnf);first|refine zS ?_|refine zT ?_ ?_<;>intro _|fail)
 all_goals conv=>whnf
 all_goals (try simp only[lH,mG]at*)
 all_goals first
  |exact aA (le_dec ⟨fun h=>hr.2 ⟨Aa,Aa⟩,fun h=>by have:=hr.1 h;omega⟩)
  |exact aA (aC (fun h=>by have:=hr.1 h;omega))
def xH(b:Bx):Prop:=b.1.1<b.2.1/\b.1.2<b.2.2
theorem bS8(b:Bx):Sp 259 [bxV b] (DB (xH b)):=by
 refine zsp Tryz.func259 ?_;have hr:xH b↔b.1.1<b.2.1/\b.1.2<b.2.2:=Iff.rfl;generalize xH b=P at*
 repeat' ((conv=>whnf);first|refine zS ?_|refine zT ?_ ?_<;>intro _|fail)
 all_goals conv=>whnf
 all_goals first
  |exact aA (aS1 ⟨fun h=>hr.2 ⟨Aa,Aa⟩,fun h=>by have:=hr.1 h;omega⟩)
  |exact aA (aC (fun h=>by have:=hr.1 h;omega))
def nV(a b:Bx):Bx:=((max a.1.1 b.1.1,max a.1.2 b.1.2),(min a.2.1 b.2.1,min a.2.2 b.2.2))
theorem cE9(a b:Bx):Sp 261 [bxV a,bxV b] (.tup [bxV (nV a b),DB (xH (nV a b))]):=by
 refine zsp Tryz.func261 ?_;have h1:=bS8 (nV a b);unfold nV at h1⊢;simp only[<-mG,<-lH]at h1⊢
 repeat' ((conv=>whnf);first|refine zc h1 ?_|refine zS ?_|fail)
 all_goals exact zE
def jT(b:Bx)(by_:Vc):Sh:=qO (sV (vsub b.1 by_) (vsub b.2 by_))
theorem cW6(lo hi:Vc):gV (sV lo hi):=by
 unfold sV;split
 ·exact⟨by simp[sh0],by simp[sh0],fun r hr=>by simp[sh0]at hr⟩
 ·exact⟨Ae,Ae,fun r hr=>by simp at hr⟩
theorem aJ0(b:Bx)(v:Vc):Sp 260 [bxV b,vcV v] (shV (jT b v)):=by
 refine zsp Tryz.func260 ?_;have h1:=fF b.1 v;have h2:=fF b.2 v
 have h3:=cX1 (vsub b.1 v) (vsub b.2 v);have h4:=aU9 _ (cW6 (vsub b.1 v) (vsub b.2 v))
 unfold jT;generalize vsub b.1 v=p at*;generalize vsub b.2 v=q at*;generalize sV p q=r at*;generalize qO r=r' at*
 repeat' ((conv=>whnf);first|refine zc h1 ?_|refine zc h2 ?_|refine zc h3 ?_|refine zc h4 ?_|refine zS ?_|fail)
 all_goals exact zE
def sU(len:Int):Int->List Iv->Prop
 |_,[] =>True
 |e,d::R=>e<=d.1/\d.1<d.2/\d.2<=len/\sU len d.2 R
def fM(b:Bar):Prop:=kZ b.id b.grade b.heat/\1<=b.length/\b.length<=2000/\b.defects.length<=6/\sU b.length 0 b.defects
def bV8(D:List Iv):Int:=match D.getLast? with|some d=>d.2|none=>0
theorem bH3(D:List Iv)(d:Iv):bV8 (D++[d])=d.2:=by unfold bV8;simp
theorem qP(b:Bar)(hb:b.defects.length<=1000000):Sp 115 [barV b] (DB (fM b)):=by
 refine zsp Tryz.func115 ?_;have h1:=cS6 b;have h2:=aI6 b.id b.grade b.heat
 have hr:fM b↔kZ b.id b.grade b.heat/\1<=b.length/\b.length<=2000/\b.defects.length<=6/\sU b.length 0 b.defects:=Iff.rfl;have hl:(b.defects.map ivV).length=b.defects.length:=Ae
 generalize fM b=P at*;generalize kZ b.id b.grade b.heat=p1 at*
 repeat' ((conv=>whnf);first|refine zS ?_|refine zT ?_ ?_<;>intro _|fail)
 all_goals conv=>whnf
 all_goals first
  |exact aA (aC (fun h=>absurd (hr.1 h).1 Ad))
  |exact aA (aC (fun h=>by have:=hr.1 h;omega))
  |skip
 have hP:P↔sU b.length 0 b.defects:=⟨fun h=>(hr.1 h).2.2.2.2,fun h=>hr.2 ⟨Ad,Aa,Aa,Aa,h⟩⟩;clear hr;refine aU (A:=List Iv) (B:=List Iv) (fun D R=>mkSt [(1, .box 1 0),(3,I (bV8 D)),(28, .sl (b.defects.map ivV)),(29,I b.defects.length),(30,I D.length)] [(1,barC b)] []) (fun D R=>b.defects=D++R/\(P↔sU b.length (bV8 D) R)) (fun D R=>R.length) [] b.defects ?_ ⟨rfl,hP⟩ (fun D R hp=>?_)
 ·exact HY
 obtain⟨hp,hq⟩:=hp
 cases R with
 |nil=>
  have hlen:b.defects.length=D.length:=Af
  repeat' ((conv=>whnf);first|(exfalso;omega)|refine zS ?_|refine zT ?_ ?_<;>intro _|fail)
  all_goals conv=>whnf
  exact aA (fE (hq.2 trivial))
 |cons d R=>
  have hlen:=aO hp;have hq2:P↔bV8 D<=d.1/\d.1<d.2/\d.2<=b.length/\sU b.length d.2 R:=hq
  repeat' ((conv=>whnf);first|(exfalso;omega)|refine zS ?_|refine zT ?_ ?_<;>intro _|fail)
  all_goals conv=>whnf
  all_goals first
   |exact aA (aC (fun h=>by have:=hq2.1 h;omega))
   |skip
  refine⟨(D++[d],R),?_,⟨Af,?_⟩,Ae⟩
  ·simp only[bH3,List.length_append,List.length_singleton]
   refine dV ?_ ?_ ?_ ?_;all_goals repeat' (first|exact trivial|refine And.intro ?_ ?_|with_reducible rfl|exact(fun h=>Ag)|exact Nat.le_refl _|omega|exact rfl)
  ·show P↔sU b.length (bV8 (D++[d])) R
   rw[bH3,hq2];exact⟨fun h=>h.2.2.2,fun h=>⟨Aa,Aa,Aa,h⟩⟩
theorem eY2{g:FuncId}{Q:Int->Prop}(hg:∀m,Sp g (I m:: []) (DB (Q m)))(l:List Int)(hl:l.length<=1000000):fnVC T Tryz.prog Tryz.f342 [.sl (l.map I), .fn g []] (I (fstI Q l)):=by
 have hll:(l.map I).length=l.length:=Ae
 repeat' ((conv=>whnf);first|refine zS ?_|fail)
 refine aU (A:=List Int) (B:=List Int) (fun D R=>mkSt [(0, .sl (l.map I)),(1, .fn g []),(7,I l.length),(8,I D.length)] [] [])
  (fun D R=>l=D++R/\∀m∈D,¬Q m) (fun D R=>R.length) [] l ?_ ⟨rfl,Ae⟩ (fun D R hp=>?_)
 ·exact zj
 ·exact GL
theorem eI6{g:FuncId}{Q:Int->Prop}(hg:∀m,Sp g (I m:: []) (DB (Q m)))(l:List Int)(hl:l.length<=1000000):Sp 342 [.sl (l.map I), .fn g []] (I (fstI Q l)):=zsp Tryz.func342 (eY2 hg l hl)
theorem eW3{g:FuncId}{Q:Int->Prop}(hg:∀m,Sp g (I m:: []) (DB (Q m)))(l:List Int)(hl:l.length<=1000000):fnVC T Tryz.prog Tryz.f308 [.sl (l.map I), .fn g []] (DB (∃m∈l,Q m)):=by
 repeat' ((conv=>whnf);first|refine zc (eI6 hg l hl) ?_|refine zS ?_|fail)
 exact KR
theorem eB1{g:FuncId}{Q:Int->Prop}(hg:∀m,Sp g (I m:: []) (DB (Q m)))(l:List Int)(hl:l.length<=1000000):Sp 308 [.sl (l.map I), .fn g []] (DB (∃m∈l,Q m)):=zsp Tryz.func308 (eW3 hg l hl)
theorem dR5(n:Int):Sp 309 [I n] (DB (n<1\/1000000<n)):=by
 refine zsp Tryz.func309 ?_
 repeat' ((conv=>whnf);first|refine zS ?_|refine zT ?_ ?_<;>intro _|fail)
 all_goals conv=>whnf
 all_goals first
  |exact aA (fE Aa)
  |exact aA (aS1 ⟨fun h=>Aa,fun h=>Aa⟩)
def nC(n:Int):Prop:=1<=n/\n<=1000000
theorem cV8(n:Int):Sp 258 [.sl [I n]] (DB (nC n)):=by
 refine zsp Tryz.func258 ?_;have h1:=eB1 (g:=309) (Q:=fun n=>n<1\/1000000<n) (fun m=>dR5 m) [n] Ae;have h2:DB (∃m∈[n],m<1\/1000000<m)=DB (n<1\/1000000<n):=congrArg (fun b=>V.lit (.bool b)) (fQ ⟨fun⟨m,h,h'⟩=>by rw[List.mem_singleton.1 h]at h';exact h',fun h=>⟨n,Ae,h⟩⟩)
 rw[h2]at h1
 repeat' ((conv=>whnf);first|refine zS ?_|fail)
 all_goals conv=>whnf
 all_goals exact aA (aF6 (dW.trans ⟨fun h=>by unfold nC;omega,fun h=>by unfold nC at h;omega⟩))
end Go.Proofs.Led
