/-
  Shapes: the sectors at the points that two boundaries have in common; a shape inside another one.
-/
import Derived.Test.YtkhhdojgbkophaaGreatDoorBB4
set_option linter.unusedVariables false
set_option linter.unusedSimpArgs false
set_option maxRecDepth 100000
set_option maxHeartbeats 4000000
noncomputable section
namespace Go.Proofs.Led
open Go Go.Proofs Go.Ab
abbrev eU0(g:FuncId)(Q:Sg->Sg->Prop):Prop:=∀x y,Sp g [sgV x,sgV y] (DB (Q x y))
def touchAt(a b:Sh)(Q:Sg->Sg->Prop)(p:Vc):Prop:=lJ a p=1->lJ b p=1->Q (jE a p) (jE b p)
def bD2(a b:Sh)(Q:Sg->Sg->Prop):Prop:=∀p∈rV a++rV b,touchAt a b Q p
theorem cZ6{g:FuncId}{Q:Sg->Sg->Prop}(hg:eU0 g Q)(a b:Sh)(ha:gV a)(ha7:a.holes.length<=6)(hb:gV b)(hb7:b.holes.length<=6):Sp 193 [shV a,shV b, .fn g []] (DB (bD2 a b Q)):=by
 refine zsp Tryz.func193 ?_;have hva:=aJ3 a ha ha7;have hvb:=aJ3 b hb hb7
 have hla:=cH3 ha ha7;have hlb:=cH3 hb hb7
 change Sp _ _ (.own 112 ((rV a).map vcV))at hva;change Sp _ _ (.own 112 ((rV b).map vcV))at hvb;generalize hP:bD2 a b Q=P;have hr:P↔∀p∈rV a++rV b,touchAt a b Q p:=by rw[<-hP];exact Iff.rfl
 clear hP;generalize rV a=A at*;generalize rV b=B at*;have hAm:(A.map vcV).length=A.length:=Ae;have hBm:(B.map vcV).length=B.length:=Ae
 repeat' ((conv=>whnf);first|refine zc hva ?_|refine zc hvb ?_|refine iH rfl (.inl rfl) rfl (of_decide_eq_true rfl) (aM5 _) (show(A.map vcV).length+(B.map vcV).length<=1000000000 from Aa) ?_|refine zS ?_|fail)
 all_goals conv=>whnf
 have hCm:(A++B).length=A.length+B.length:=List.length_append;have hmap:A.map vcV++B.map vcV=(A++B).map vcV:=Ae
 generalize hC:A++B=C at*;have hCl:(C.map vcV).length=C.length:=Ae;refine aU (A:=List Vc) (B:=List Vc) (fun D R=>mkSt [(2, .fn g []),(3, .box 3 0),(4, .box 4 0),(13, .arr 10 1),(14,I C.length),(15,I D.length)] [(3,(shV a).cells),(4,(shV b).cells)] [(10,⟨1, .own,112,C.map vcV⟩)]) (fun D R=>C=D++R/\∀q∈D,touchAt a b Q q) (fun D R=>R.length) [] C ?_ ⟨rfl,Ae⟩ (fun D R hp=>?_)
 ·rw[<-hmap]
  refine dV ?_ ?_ ?_ ?_;all_goals repeat' (first|exact trivial|refine And.intro ?_ ?_|with_reducible rfl|exact(fun h=>Ad)|exact Nat.le_refl _|omega|exact rfl)
  all_goals (try rw[hmap,List.length_map])
 obtain⟨hp,hD⟩:=hp
 cases R with
 |nil=>
  have hlen:C.length=D.length:=Af
  repeat' ((conv=>whnf);first|(exfalso;omega)|refine zS ?_|refine zT ?_ ?_<;>intro _|fail)
  all_goals conv=>whnf
  refine aA (fE (hr.2 fun q hq=>?_));rw[hp,List.append_nil]at hq;exact hD q hq
 |cons q R=>
  have hlen:=aO hp;have ha1:=aD4 a q ha
  have hb1:=aD4 b q hb;have ha2:=aW8 a q ha ha7
  have hb2:=aW8 b q hb hb7;have hgg:=hg (jE a q) (jE b q)
  have hT:touchAt a b Q q↔(lJ a q=1->lJ b q=1->Q (jE a q) (jE b q)):=Iff.rfl;have hqC:q∈C:=Af
  repeat' ((conv=>whnf);first|(exfalso;omega)|refine dS rfl rfl (by show 0<=_/\_< ((C.map vcV).length:Int);omega) ?_|refine aF (l:=C) (A:=D) (x:=q) (B:=R) hp Aa ?_|refine zc ha1 ?_|refine zc hb1 ?_|refine zc ha2 ?_|refine zc hb2 ?_|refine zc hgg ?_|refine zS ?_|refine zT ?_ ?_<;>intro _|fail)
  all_goals conv=>whnf
  all_goals first
   |exact aA (aC (fun h=>absurd ((hr.1 h) q hqC Ag Ag) Ag))
   |skip
  all_goals refine⟨(D++[q],R),?_,⟨Af,fun z hz=>?_⟩,Ae⟩
  all_goals first
   |(rcases List.mem_append.1 hz with hz|hz
     ·exact hD z hz
     ·rw[List.mem_singleton.1 hz]
      exact fun h1 h2=>by first|assumption|exact absurd h1 (by assumption)|exact absurd h2 (by assumption))
   |skip
  all_goals simp only[List.length_append,List.length_singleton]
  ·exact zj
  ·exact zj
  ·exact zj
def aO3(c s:Sh):Prop:=¬rJ c s [2]/\¬bL9 s c 0/\¬bL9 c s 2/\bD2 c s (fun x y=>¬jH y (x.2,x.1))
theorem dP2(x y:Sg):Sp 194 [sgV x,sgV y] (DB (¬jH y (x.2,x.1))):=by
 refine zsp Tryz.func194 ?_;have h1:=bX9 x;have h2:=cT5 y (x.2,x.1)
 repeat' ((conv=>whnf);first|refine zc h1 ?_|refine zc h2 ?_|refine zS ?_|fail)
 all_goals conv=>whnf
 all_goals exact aA (aF6 dW)
theorem eS8:eU0 194 (fun x y=>¬jH y (x.2,x.1)):=fun x y=>dP2 x y
theorem cG3{s:Sh}(h:bG s):(rV s).length<=80:=by
 unfold rV;rw[List.length_flatten];exact h.2.2.1
theorem yB{s:Sh}(h:bG s):s.holes.length<=6:=h.1
theorem iT{s:Sh}(h:bG s):gV s:=by
 have h1:∀r∈rings s,r.length<=40:=fun r hr=>(h.2.1 r hr).2.1;refine⟨?_,?_,fun r hr=>?_⟩
 ·have:=h1 s.outer Bl
  omega
 ·have:=h.1
  omega
 ·have:=h1 r (by unfold rings;simp[hr])
  omega
theorem cO1(c s:Sh)(hc:bG c)(hs:bG s):Sp 151 [shV c,shV s] (DB (aO3 c s)):=by
 refine zsp Tryz.func151 ?_;have v1:=cG3 hc;have v2:=cG3 hs
 have m1:=bX6 c s [2] (iT hc) (yB hc) (iT hs) (yB hs) Ak;have m2:=bK5 s c 0 (iT hs) (yB hs) (iT hc) Aa
 have m3:=bK5 c s 2 (iT hc) (yB hc) (iT hs) Aa;have m4:=cZ6 eS8 c s (iT hc) (yB hc) (iT hs) (yB hs)
 have hr:aO3 c s↔¬rJ c s [2]/\¬bL9 s c 0/\¬bL9 c s 2/\bD2 c s (fun x y=>¬jH y (x.2,x.1)):=Iff.rfl;generalize aO3 c s=P at*;generalize rJ c s [2] =p1 at*;generalize bL9 s c 0=p2 at*;generalize bL9 c s 2=p3 at*;generalize bD2 c s (fun x y=>¬jH y (x.2,x.1))=p4 at*
 repeat' ((conv=>whnf);first|refine zc m1 ?_|refine zc m2 ?_|refine zc m3 ?_|refine zc m4 ?_|refine zS ?_|refine zT ?_ ?_<;>intro _|fail)
 all_goals conv=>whnf
 all_goals first
  |exact aA (aC (fun h=>absurd Ag (hr.1 h).1))
  |exact aA (aC (fun h=>absurd Ag (hr.1 h).2.1))
  |exact aA (aC (fun h=>absurd Ag (hr.1 h).2.2.1))
  |exact aA (fQ ⟨fun h=>hr.2 ⟨Ag,Ag,Ag,h⟩,fun h=>(hr.1 h).2.2.2⟩)
  |skip
def lI(c s:Sh):Prop:=bG c/\bG s/\aO3 c s
def pO(c s:Sh):Int:=open Classical in if bG c/\bG s then 0 else 11
theorem aA6(c s:Sh)(hc:gV c)(hs:gV s):Sp 108 [shV c,shV s] (.tup [DB (lI c s),I (pO c s)]):=by
 refine zsp Tryz.func108 ?_;have m1:=kK c hc;have m2:=kK s hs
 by_cases h1:bG c
 ·by_cases h2:bG s
  ·have e1:DB (lI c s)=DB (aO3 c s):=congrArg (fun b=>V.lit (.bool b)) (fQ ⟨fun h=>h.2.2,fun h=>⟨h1,h2,h⟩⟩)
   have e2:pO c s=0:=if_pos ⟨h1,h2⟩;have m3:=cO1 c s h1 h2
   rw[e1,e2]
   repeat' ((conv=>whnf);first|(exfalso;contradiction)|refine zc m1 ?_|refine zc m2 ?_|refine zc m3 ?_|refine zS ?_|refine zT ?_ ?_<;>intro _|fail)
   all_goals exact zE
  ·have e1:DB (lI c s)= .lit (.bool false):=congrArg (fun b=>V.lit (.bool b)) (dW.2 (fun h=>h2 h.2.1))
   have e2:pO c s=11:=if_neg (fun h=>h2 h.2);rw[e1,e2]
   repeat' ((conv=>whnf);first|(exfalso;contradiction)|refine zc m1 ?_|refine zc m2 ?_|refine zS ?_|refine zT ?_ ?_<;>intro _|fail)
   all_goals exact zE
 ·have e1:DB (lI c s)= .lit (.bool false):=congrArg (fun b=>V.lit (.bool b)) (dW.2 (fun h=>h1 h.1))
  have e2:pO c s=11:=if_neg (fun h=>h1 h.1);rw[e1,e2]
  repeat' ((conv=>whnf);first|(exfalso;contradiction)|refine zc m1 ?_|refine zS ?_|refine zT ?_ ?_<;>intro _|fail)
  all_goals exact zE
def jA(c:Int):Prop:=(97<=c/\c<=122)\/(65<=c/\c<=90)
def isDigit(c:Int):Prop:=48<=c/\c<=57
def fG(c:Int):Prop:=jA c\/isDigit c\/c=95
def iM(s:ByteArray):Prop:=1<=s.size/\s.size<=16/\jA (byteAt s 0)/\∀i,i<s.size->fG (byteAt s i)
theorem dQ2(c:Int):fnVC T Tryz.prog Tryz.f54 [U c] (.lit (.bool (decB (jA c)))):=by
 repeat' ((conv=>whnf);first|refine zS ?_|refine zT ?_ ?_<;>intro _|fail)
 all_goals conv=>whnf
 all_goals refine aA ?_
 ·exact fE (by unfold jA;omega)
 ·refine le_dec ?_
  unfold jA;omega
 ·exact aC (by unfold jA;omega)
 ·refine le_dec ?_
  unfold jA;omega
 ·exact aC (by unfold jA;omega)
theorem aT4(c:Int):Sp 54 [U c] (.lit (.bool (decB (jA c)))):=zsp Tryz.func54 (dQ2 c)
theorem eD7(c:Int):fnVC T Tryz.prog Tryz.f89 [U c] (.lit (.bool (decB (isDigit c)))):=by
 repeat' ((conv=>whnf);first|refine zS ?_|refine zT ?_ ?_<;>intro _|fail)
 all_goals conv=>whnf
 all_goals refine aA ?_
 ·refine le_dec ?_
  unfold isDigit;omega
 ·exact aC (by unfold isDigit;omega)
theorem cX6(c:Int):Sp 89 [U c] (.lit (.bool (decB (isDigit c)))):=zsp Tryz.func89 (eD7 c)
theorem dX8(c:Int):fnVC T Tryz.prog Tryz.f56 [U c] (.lit (.bool (decB (fG c)))):=by
 repeat' ((conv=>whnf);first|refine zc (aT4 c) ?_|refine zc (cX6 c) ?_|refine zS ?_|refine zd (fun hd=>?_) (fun hd=>?_))
 all_goals conv=>whnf
 all_goals refine aA ?_
 ·exact fE (.inl hd)
 ·exact fE (.inr (.inl hd))
 ·rename_i h1
  refine sK ⟨fun h=> .inr (.inr h),fun h=>?_⟩;rcases h with h|h|h
  ·exact(h1 h).elim
  ·exact(hd h).elim
  ·exact h
theorem cR8(c:Int):Sp 56 [U c] (.lit (.bool (decB (fG c)))):=zsp Tryz.func56 (dX8 c)
def wh(p:Nat->Bool):Nat->Nat->Nat
 |0,i=>i
 |f+1,i=>if p i then wh p f (i+1)else i
theorem dG8{p:Nat->Bool}{f i:Nat}(h:p i=true):wh p (f+1) i=wh p f (i+1):=by rw[wh,if_pos h]
theorem dE4{p:Nat->Bool}{f i:Nat}(h:p i=false):wh p (f+1) i=i:=by rw[wh,if_neg (by simp[h])]
theorem cV4(p:Nat->Bool):∀f i,wh p f i=i+f↔∀j,i<=j->j<i+f->p j=true
 |0,i=>by simp[wh];omega
 |f+1,i=>by
  rw[wh];split
  ·rename_i h
   have:=cV4 p f (i+1);rw[show i+(f+1)=i+1+f from Aa,this];constructor
   ·intro h1 j hj hj2
    rcases Nat.eq_or_lt_of_le hj with rfl|hlt
    ·exact h
    ·exact h1 j hlt hj2
   ·intro h1 j hj hj2
    exact h1 j Aa hj2
  ·rename_i h
   constructor
   ·intro h1;omega
   ·intro h1;exact(h (h1 i (Nat.le_refl _) Aa)).elim
def whS(K:Int->Prop)(s:ByteArray)(i:Nat):Nat:=wh (fun j=>decB (K (byteAt s j))) (s.size-i) i
theorem dV7{g:FuncId}{Kd:Int->Prop}(hg:∀c,Sp g [U c] (.lit (.bool (decB (Kd c)))))(s:ByteArray)(i:Nat)(hs:s.size<=1000000000):
 fnVC T Tryz.prog Tryz.f55 [S s,I i, .fn g []] (I (whS Kd s i)):=by
 repeat' ((conv=>whnf);first|refine zS ?_|fail)
 refine lD (A:=Nat) (fun k=>mkSt [(0,S s),(1,I k),(2, .fn g [])] [] []) (fun k=>whS Kd s k=whS Kd s i) (fun k=>s.size-k) i ?_ rfl (fun k hk=>?_)
 ·exact zj
 ·change whS Kd s k=whS Kd s i at hk
  rcases Nat.lt_or_ge k s.size with hlt|hge
  ·obtain⟨f,hf⟩:∃f,s.size-k=f+1:=⟨s.size-k-1,Aa⟩
   have hks:whS Kd s k=wh (fun j=>decB (Kd (byteAt s j))) (f+1) k:=by unfold whS;rw[hf]
   repeat' ((conv=>whnf);first|(exfalso;omega)|refine zc (hg (byteAt s k)) ?_|refine zS ?_|refine zd (fun hd=>?_) (fun hd=>?_)|refine zl (fun hlt=>?_) (fun hlt=>?_))
   ·conv=>whnf
    refine⟨k+1,?_,?_,Aa⟩
    ·exact Il
    ·show whS Kd s (k+1)=_
     rw[<-hk,hks,dG8 (dH.2 hd)];unfold whS;rw[show s.size- (k+1)=f from Aa]
   ·conv=>whnf
    refine aG ?_;rw[<-hk,hks,dE4 (dW.2 hd)]
  ·have hks:whS Kd s k=k:=by unfold whS;rw[show s.size-k=0 from Aa];rfl
   repeat' ((conv=>whnf);first|(exfalso;omega)|refine zS ?_|refine zl (fun hlt=>?_) (fun hlt=>?_))
   conv=>whnf
   refine aG ?_;rw[<-hk,hks]
theorem cQ3{g:FuncId}{Kd:Int->Prop}(hg:∀c,Sp g [U c] (.lit (.bool (decB (Kd c)))))(s:ByteArray)(i:Nat)(hs:s.size<=1000000000):
 Sp 55 [S s,I i, .fn g []] (I (whS Kd s i)):=zsp Tryz.func55 (dV7 hg s i hs)
theorem eL8(s:ByteArray):fnVC T Tryz.prog Tryz.f25 [S s] (.lit (.bool (decB (iM s)))):=by
 have hz:=dJ7 (s:=s);rcases Nat.lt_or_ge 16 s.size with hbig|hsm
 ·repeat' ((conv=>whnf);first|refine jI (fun heq=>?_) (fun heq=>?_)|(exfalso;omega)|refine zS ?_|refine zk (fun hle=>?_) (fun hle=>?_))
  all_goals conv=>whnf
  all_goals refine aA ?_
  all_goals exact aC (fun h=>by have:=h.2.1;omega)
 ·repeat' ((conv=>whnf);first|refine jI (fun heq=>?_) (fun heq=>?_)|(exfalso;omega)|refine cK2 ⟨Aa,by have:=mt hz.1 heq;omega⟩ ?_|refine zc (aT4 (byteAt s 0)) ?_|refine zc (cQ3 cR8 s 0 Aa) ?_|refine zS ?_|refine zd (fun hd=>?_) (fun hd=>?_)|refine zk (fun hle=>?_) (fun hle=>?_))
  all_goals conv=>whnf
  all_goals refine aA ?_
  ·exact aC (fun h=>by have:=h.1;have:=hz.2 heq;omega)
  ·refine sK ?_
   have hw:=cV4 (fun j=>decB (fG (byteAt s j))) s.size 0;have hs0:whS fG s 0=wh (fun j=>decB (fG (byteAt s j))) s.size 0:=rfl
   have hne:=mt hz.1 heq;rw[<-hs0,Nat.zero_add]at hw;have e:(((whS fG s 0:Nat):Int)=(s.size:Int))↔whS fG s 0=s.size:=Aa
   show(((whS fG s 0:Nat):Int)=(s.size:Int))↔_;rw[e,hw];constructor
   ·intro h
    exact⟨Aa,hsm,hd,fun i hi=>dH.1 (h i (Nat.zero_le _) Aa)⟩
   ·intro h j _ hj
    exact dH.2 (h.2.2.2 j Aa)
  ·exact aC (fun h=>hd h.2.2.1)
theorem aG6(s:ByteArray):Sp 25 [S s] (.lit (.bool (decB (iM s)))):=zsp Tryz.func25 (eL8 s)
def kZ(id:Int)(g h:ByteArray):Prop:=1<=id/\id<=1000000/\iM g/\iM h
theorem aI6(id:Int)(g h:ByteArray):Sp 104 [.agg [I id,S g,S h]] (DB (kZ id g h)):=by
 refine zsp Tryz.func104 ?_;have h1:=aG6 g;have h2:=aG6 h
 have hr:kZ id g h↔1<=id/\id<=1000000/\iM g/\iM h:=Iff.rfl;generalize kZ id g h=P at*;generalize iM g=p1 at*;generalize iM h=p2 at*
 repeat' ((conv=>whnf);first|refine zc h1 ?_|refine zc h2 ?_|refine zS ?_|refine zT ?_ ?_<;>intro _|fail)
 all_goals conv=>whnf
 all_goals first
  |exact aA (fQ ⟨fun h=>hr.2 ⟨Aa,Aa,Ag,h⟩,fun h=>(hr.1 h).2.2.2⟩)
  |exact aA (aC (fun h=>absurd (hr.1 h).2.2.1 Ag))
  |exact aA (aC (fun h=>BD))
  |exact aA (le_dec ⟨fun h=>Aa,fun h=>BD⟩)
theorem cS6(b:Bar):Sp 109 [barV b] (.agg ([I b.id,S b.grade,S b.heat] ++barC b)):=by
 refine zsp Tryz.func109 ?_;exact Oi
theorem aK4(s:jL):Sp 103 [zJ s] (.agg ([I s.id,S s.grade,S s.heat] ++aA7 s)):=by
 refine zsp Tryz.func103 ?_;exact Oi
theorem cT8{r:Rg}(hr:r≠ []):(wL r).length<=r.length+r.length:=by
 unfold wL;rw[List.length_append,List.length_drop,List.length_take];omega
theorem aU5{s:Sh}(h:bG s):gV (qO s):=by
 have hl:∀r∈rings s,(gQ r).length<=1000000:=fun r hr=>by
  obtain⟨h3,h40,_⟩:=h.2.1 r hr;rw[bJ7 (h.2.1 r hr)];have:=cT8 (r:=r) (fun e=>by rw[e]at h3;simp at h3)
  omega
 rw[aN9 h];refine⟨hl s.outer Bl,?_,fun r hr=>?_⟩
 ·unfold wW
  rw[cX8,List.length_map];have:=h.1;omega
 ·unfold wW at hr
  rw[dB0]at hr;obtain⟨q,hq,rfl⟩:=List.mem_map.1 hr;exact hl q (by unfold rings;simp[hq])
def jV(s:Sh):Prop:=bG s/\s=qO s
theorem aD5(s:Sh)(hs:gV s):Sp 105 [shV s] (DB (jV s)):=by
 refine zsp Tryz.func105 ?_;have h1:=kK s hs;have h2:=aU9 s hs
 by_cases h:bG s
 ·have h3:=cQ8 s (qO s) hs (aU5 h)
  have e1:DB (jV s)=DB (s=qO s):=congrArg (fun b=>V.lit (.bool b)) (fQ ⟨fun h=>h.2,fun q=>⟨h,q⟩⟩);rw[e1]
  repeat' ((conv=>whnf);first|(exfalso;contradiction)|refine zc h1 ?_|refine zc h2 ?_|refine zc h3 ?_|refine zS ?_|refine zT ?_ ?_<;>intro _|fail)
  all_goals exact zE
 ·have e1:DB (jV s)= .lit (.bool false):=congrArg (fun b=>V.lit (.bool b)) (dW.2 (fun q=>h q.1))
  rw[e1];exact Ob
def dQ(v:Vc):Prop:=0<=min v.1 v.2/\max v.1 v.2<=1900
theorem mJ(v:Vc):Sp 107 [vcV v] (DB (dQ v)):=by
 refine zsp Tryz.func107 ?_;have hr:dQ v↔0<=min v.1 v.2/\max v.1 v.2<=1900:=Iff.rfl;generalize dQ v=P at*
 repeat' ((conv=>whnf);first|refine zS ?_|refine zT ?_ ?_<;>intro _|fail)
 all_goals conv=>whnf
 all_goals (try simp only[lH,mG]at*)
 all_goals first
  |exact aA (le_dec ⟨fun h=>hr.2 ⟨Aa,Aa⟩,fun h=>BD⟩)
  |exact aA (aC (fun h=>BD))
def xH(b:Bx):Prop:=b.1.1<b.2.1/\b.1.2<b.2.2
theorem bS8(b:Bx):Sp 199 [bxV b] (DB (xH b)):=by
 refine zsp Tryz.func199 ?_;have hr:xH b↔b.1.1<b.2.1/\b.1.2<b.2.2:=Iff.rfl;generalize xH b=P at*
 repeat' ((conv=>whnf);first|refine zS ?_|refine zT ?_ ?_<;>intro _|fail)
 all_goals conv=>whnf
 all_goals first
  |exact aA (aS1 ⟨fun h=>hr.2 ⟨Aa,Aa⟩,fun h=>BD⟩)
  |exact aA (aC (fun h=>BD))
def nV(a b:Bx):Bx:=((max a.1.1 b.1.1,max a.1.2 b.1.2),(min a.2.1 b.2.1,min a.2.2 b.2.2))
theorem cE9(a b:Bx):Sp 201 [bxV a,bxV b] (.tup [bxV (nV a b),DB (xH (nV a b))]):=by
 refine zsp Tryz.func201 ?_;have h1:=bS8 (nV a b);unfold nV at h1⊢;simp only[<-mG,<-lH]at h1⊢
 repeat' ((conv=>whnf);first|refine zc h1 ?_|refine zS ?_|fail)
 all_goals exact zE
def jT(b:Bx)(by_:Vc):Sh:=qO (sV (vsub b.1 by_) (vsub b.2 by_))
theorem cW6(lo hi:Vc):gV (sV lo hi):=by
 unfold sV;split
 ·exact⟨by simp[sh0],by simp[sh0],fun r hr=>by simp[sh0]at hr⟩
 ·exact⟨Ae,Ae,fun r hr=>by simp at hr⟩
theorem aJ0(b:Bx)(v:Vc):Sp 200 [bxV b,vcV v] (shV (jT b v)):=by
 refine zsp Tryz.func200 ?_;have h1:=fF b.1 v;have h2:=fF b.2 v
 have h3:=cX1 (vsub b.1 v) (vsub b.2 v);have h4:=aU9 _ (cW6 (vsub b.1 v) (vsub b.2 v))
 unfold jT;generalize vsub b.1 v=p at*;generalize vsub b.2 v=q at*;generalize sV p q=r at*;generalize qO r=r' at*
 repeat' ((conv=>whnf);first|refine zc h1 ?_|refine zc h2 ?_|refine zc h3 ?_|refine zc h4 ?_|refine zS ?_|fail)
 all_goals exact zE
def sU(len:Int):Int->List Iv->Prop
 |_,[] =>True
 |e,d::R=>e<=d.1/\d.1<d.2/\d.2<=len/\sU len d.2 R
def fM(b:Bar):Prop:=kZ b.id b.grade b.heat/\1<=b.length/\b.length<=2000/\b.defects.length<=6/\sU b.length 0 b.defects
def bV8(D:List Iv):Int:=match D.getLast? with|some d=>d.2|none=>0
theorem bH3(D:List Iv)(d:Iv):bV8 (D++[d])=d.2:=by unfold bV8;simp
theorem qP(b:Bar)(hb:b.defects.length<=1000000):Sp 66 [barV b] (DB (fM b)):=by
 refine zsp Tryz.func66 ?_;have h1:=cS6 b;have h2:=aI6 b.id b.grade b.heat
 have hr:fM b↔kZ b.id b.grade b.heat/\1<=b.length/\b.length<=2000/\b.defects.length<=6/\sU b.length 0 b.defects:=Iff.rfl;have hl:(b.defects.map ivV).length=b.defects.length:=Ae
 generalize fM b=P at*;generalize kZ b.id b.grade b.heat=p1 at*
 repeat' ((conv=>whnf);first|refine zS ?_|refine zT ?_ ?_<;>intro _|fail)
 all_goals conv=>whnf
 all_goals first
  |exact aA (aC (fun h=>absurd (hr.1 h).1 Ag))
  |exact aA (aC (fun h=>BD))
  |skip
 have hP:P↔sU b.length 0 b.defects:=⟨fun h=>(hr.1 h).2.2.2.2,fun h=>hr.2 ⟨Ag,Aa,Aa,Aa,h⟩⟩;clear hr;refine aU (A:=List Iv) (B:=List Iv) (fun D R=>mkSt [(1, .box 1 0),(3,I (bV8 D)),(28, .sl (b.defects.map ivV)),(29,I b.defects.length),(30,I D.length)] [(1,barC b)] []) (fun D R=>b.defects=D++R/\(P↔sU b.length (bV8 D) R)) (fun D R=>R.length) [] b.defects ?_ ⟨rfl,hP⟩ (fun D R hp=>?_)
 ·exact IK
 obtain⟨hp,hq⟩:=hp
 cases R with
 |nil=>
  have hlen:b.defects.length=D.length:=Af
  repeat' ((conv=>whnf);first|(exfalso;omega)|refine zS ?_|refine zT ?_ ?_<;>intro _|fail)
  all_goals conv=>whnf
  exact aA (fE (hq.2 trivial))
 |cons d R=>
  have hlen:=aO hp;have hq2:P↔bV8 D<=d.1/\d.1<d.2/\d.2<=b.length/\sU b.length d.2 R:=hq
  repeat' ((conv=>whnf);first|(exfalso;omega)|refine zS ?_|refine zT ?_ ?_<;>intro _|fail)
  all_goals conv=>whnf
  all_goals first
   |exact aA (aC (fun h=>by have:=hq2.1 h;omega))
   |skip
  refine⟨(D++[d],R),?_,⟨Af,?_⟩,Ae⟩
  ·simp only[bH3,List.length_append,List.length_singleton]
   exact MO
  ·show P↔sU b.length (bV8 (D++[d])) R
   rw[bH3,hq2];exact⟨fun h=>h.2.2.2,fun h=>⟨Aa,Aa,Aa,h⟩⟩
theorem eY2{g:FuncId}{Q:Int->Prop}(hg:∀m,Sp g (I m:: []) (DB (Q m)))(l:List Int)(hl:l.length<=1000000):fnVC T Tryz.prog Tryz.f268 [.sl (l.map I), .fn g []] (I (fstI Q l)):=by
 have hll:(l.map I).length=l.length:=Ae
 repeat' ((conv=>whnf);first|refine zS ?_|fail)
 refine aU (A:=List Int) (B:=List Int) (fun D R=>mkSt [(0, .sl (l.map I)),(1, .fn g []),(7,I l.length),(8,I D.length)] [] [])
  (fun D R=>l=D++R/\∀m∈D,¬Q m) (fun D R=>R.length) [] l ?_ ⟨rfl,Ae⟩ (fun D R hp=>?_)
 ·exact zj
 ·exact Io
theorem eI6{g:FuncId}{Q:Int->Prop}(hg:∀m,Sp g (I m:: []) (DB (Q m)))(l:List Int)(hl:l.length<=1000000):Sp 268 [.sl (l.map I), .fn g []] (I (fstI Q l)):=zsp Tryz.func268 (eY2 hg l hl)
theorem eW3{g:FuncId}{Q:Int->Prop}(hg:∀m,Sp g (I m:: []) (DB (Q m)))(l:List Int)(hl:l.length<=1000000):fnVC T Tryz.prog Tryz.f238 [.sl (l.map I), .fn g []] (DB (∃m∈l,Q m)):=by
 repeat' ((conv=>whnf);first|refine zc (eI6 hg l hl) ?_|refine zS ?_|fail)
 exact MV
theorem eB1{g:FuncId}{Q:Int->Prop}(hg:∀m,Sp g (I m:: []) (DB (Q m)))(l:List Int)(hl:l.length<=1000000):Sp 238 [.sl (l.map I), .fn g []] (DB (∃m∈l,Q m)):=zsp Tryz.func238 (eW3 hg l hl)
theorem dR5(n:Int):Sp 239 [I n] (DB (n<1\/1000000<n)):=by
 refine zsp Tryz.func239 ?_
 repeat' ((conv=>whnf);first|refine zS ?_|refine zT ?_ ?_<;>intro _|fail)
 all_goals conv=>whnf
 all_goals first
  |exact aA (fE Aa)
  |exact aA (aS1 ⟨fun h=>Aa,fun h=>Aa⟩)
def nC(n:Int):Prop:=1<=n/\n<=1000000
theorem cV8(n:Int):Sp 198 [.sl [I n]] (DB (nC n)):=by
 refine zsp Tryz.func198 ?_;have h1:=eB1 (g:=239) (Q:=fun n=>n<1\/1000000<n) (fun m=>dR5 m) [n] Ae;have h2:DB (∃m∈[n],m<1\/1000000<m)=DB (n<1\/1000000<n):=congrArg (fun b=>V.lit (.bool b)) (fQ ⟨fun⟨m,h,h'⟩=>by rw[List.mem_singleton.1 h]at h';exact h',fun h=>⟨n,Ae,h⟩⟩)
 rw[h2]at h1
 repeat' ((conv=>whnf);first|refine zS ?_|fail)
 all_goals conv=>whnf
 all_goals exact aA (aF6 (dW.trans ⟨fun h=>by unfold nC;omega,fun h=>by unfold nC at h;omega⟩))
def qQ(s d:Sh):Prop:=jV d/\pO s d=0/\lI s d
def dB(s:jL):Prop:=kZ s.id s.grade s.heat/\0<=s.grain/\s.grain<=2/\jV s.shape/\s.defects.length<=6/\dQ (boxS s.shape).1.1/\dQ (boxS s.shape).1.2/\∀d∈s.defects,qQ s.shape d
theorem nU(s:jL)(hs:lK s):Sp 65 [zJ s] (DB (dB s)):=by
 refine zsp Tryz.func65 ?_;obtain⟨hs1,hs2,hs3⟩:=hs;have h1:=aK4 s;have h2:=aI6 s.id s.grade s.heat
 have h3:=aD5 s.shape hs1;have h4:=aS0 s.shape hs1
 have h5:=mJ (boxS s.shape).1.1;have h6:=mJ (boxS s.shape).1.2
 have hr:dB s↔kZ s.id s.grade s.heat/\0<=s.grain/\s.grain<=2/\jV s.shape/\s.defects.length<=6/\dQ (boxS s.shape).1.1/\dQ (boxS s.shape).1.2/\∀d∈s.defects,qQ s.shape d:=Iff.rfl;have hl:(s.defects.map shV).length=s.defects.length:=Ae
 have hdf:∀d,qQ s.shape d↔jV d/\pO s.shape d=0/\lI s.shape d:=fun d=>Iff.rfl;generalize dB s=P at*;generalize kZ s.id s.grade s.heat=p1 at*;generalize jV s.shape=p2 at*;generalize dQ (boxS s.shape).1.1=p3 at*;generalize dQ (boxS s.shape).1.2=p4 at*
 repeat' ((conv=>whnf);first|refine zc h1 ?_|refine zc h2 ?_|refine zc h3 ?_|refine zc h4 ?_|refine zc h5 ?_|refine zc h6 ?_|refine zS ?_|refine zT ?_ ?_<;>intro _|fail)
 all_goals conv=>whnf
 all_goals first
  |exact aA (aC (fun h=>absurd (hr.1 h).1 Ag))
  |exact aA (aC (fun h=>absurd (hr.1 h).2.2.2.1 Ag))
  |exact aA (aC (fun h=>absurd (hr.1 h).2.2.2.2.2.1 Ag))
  |exact aA (aC (fun h=>absurd (hr.1 h).2.2.2.2.2.2.1 Ag))
  |exact aA (aC (fun h=>Ce))
  |skip
 have hP:P↔∀d∈s.defects,qQ s.shape d:=⟨fun h=>(hr.1 h).2.2.2.2.2.2.2,fun h=>hr.2 ⟨Ag,Aa,Aa,Ag,Aa,Ag,Ag,h⟩⟩;clear hr;refine aU (A:=List Sh) (B:=List Sh) (fun D R=>mkSt [(1, .box 1 0),(53, .sl (s.defects.map shV)),(54,I s.defects.length),(55,I D.length)] [(1,aA7 s)] []) (fun D R=>s.defects=D++R/\∀d∈D,qQ s.shape d) (fun D R=>R.length) [] s.defects ?_ ⟨rfl,Ae⟩ (fun D R hp=>?_)
 ·exact IK
 obtain⟨hp,hD⟩:=hp
 cases R with
 |nil=>
  have hlen:s.defects.length=D.length:=Af
  repeat' ((conv=>whnf);first|(exfalso;omega)|refine zS ?_|refine zT ?_ ?_<;>intro _|fail)
  all_goals conv=>whnf
  exact OI
 |cons d R=>
  have hlen:=aO hp;have hdm:d∈s.defects:=Af
  have g1:=aA6 s.shape d hs1 (hs3 d hdm);have g2:=aD5 d (hs3 d hdm)
  have hq:=hdf d;generalize jV d=q1 at*;generalize pO s.shape d=q2 at*;generalize lI s.shape d=q3 at*
  repeat' ((conv=>whnf);first|(exfalso;omega)|refine aB (l:=s.defects) Aa ?_|refine aF (l:=s.defects) (A:=D) (x:=d) (B:=R) hp Aa ?_|refine zc g1 ?_|refine zc g2 ?_|refine zS ?_|refine zT ?_ ?_<;>intro _|fail)
  all_goals conv=>whnf
  all_goals first
   |exact aA (aC (fun h=>absurd (hq.1 (hP.1 h d hdm)).1 Ag))
   |exact aA (aC (fun h=>absurd (hq.1 (hP.1 h d hdm)).2.1 Ag))
   |exact aA (aC (fun h=>absurd (hq.1 (hP.1 h d hdm)).2.2 Ag))
   |skip
  exact OM
def aK2(b:Bx)(d:Sh):List Sh:=open Classical in if xH (nV (boxS d).1 b)then [jT (nV (boxS d).1 b) b.1]else []
def kJ(b:Bx)(l:List Sh):List Sh:=l.flatMap (aK2 b)
def remE(s:jL)(b:Bx)(id:Int):Int:=open Classical in
 if¬dB s then 1 else if¬(nC id/\xH b/\dQ b.1/\dQ b.2)then 2 else if¬lI s.shape (jT b (0,0))then 13 else 0
def remS(s:jL)(b:Bx)(id:Int):jL:=if remE s b id=0 then⟨id,s.grade,s.heat,s.grain,jT b b.1,kJ b s.defects⟩else dN
theorem aD2(b:Bx)(v:Vc):gV (jT b v):=by
 unfold jT;by_cases h:bG (sV (vsub b.1 v) (vsub b.2 v))
 ·exact aU5 h
 ·rw[bH5 h]
  exact⟨by simp[sh0],by simp[sh0],fun r hr=>by simp[sh0]at hr⟩
theorem bX0(b:Bx)(D:List Sh)(d:Sh):kJ b (D++[d])=kJ b D++aK2 b d:=by unfold kJ;simp
theorem yK(b:Bx):∀D:List Sh,(kJ b D).length<=D.length
 | [] =>Nat.le_refl _
 |d::D=>by
  have h:=yK b D;have h2:(aK2 b d).length<=1:=by unfold aK2;split<;>simp
  unfold kJ at h⊢;exact Ol
def aB2(s:jL)(b:Bx)(id:Int)(r:Sh)(X:List Sh)(n:Int):St:=match X with
 | [] =>mkSt [(3, .box 3 0),(4, .box 4 0),(6, .box 6 0),(7,I 0),(10, .box 10 0),(68, .sl (s.defects.map shV)),(69,I s.defects.length),(70,I n)]
   [(3,aA7 s),(4,(bxV b).cells),(6,[I 0,S aI,S aI,I 0,nilV,nilV,nilV]),(10,[I id,S s.grade,S s.heat,I s.grain,rgV r.outer, .sl (r.holes.map rgV),nilV])] []
 |x::X=>mkSt [(3, .box 3 0),(4, .box 4 0),(6, .box 6 0),(7,I 0),(10, .box 10 0),(68, .sl (s.defects.map shV)),(69,I s.defects.length),(70,I n)]
  [(3,aA7 s),(4,(bxV b).cells),(6,[I 0,S aI,S aI,I 0,nilV,nilV,nilV]),(10,[I id,S s.grade,S s.heat,I s.grain,rgV r.outer, .sl (r.holes.map rgV), .arr 93 X.length])] [(93,⟨X.length, .own,59,(x::X).map shV⟩)]
theorem cD5(s:jL)(b:Bx)(id:Int)(hs:lK s):Sp 156 [zJ s,bxV b,I id] (.tup [zJ (remS s b id),I (remE s b id)]):=by
 refine zsp Tryz.func156 ?_;have h1:=nU s hs;have h2:=cV8 id
 have h3:=bS8 b;have h4:=mJ b.1
 have h5:=mJ b.2;have h6:=aJ0 b (0,0)
 have h7:=aA6 s.shape (jT b (0,0)) hs.1 (aD2 b (0,0));have h8:=aJ0 b b.1
 by_cases c1:dB s;rotate_left
 ·have e1:remE s b id=1:=by unfold remE;rw[if_pos c1]
  have e2:remS s b id=dN:=Di;rw[e1,e2];exact Ob
 by_cases c2:nC id/\xH b/\dQ b.1/\dQ b.2;rotate_left
 ·have e1:remE s b id=2:=by unfold remE;rw[if_neg (fun h=>h c1),if_pos c2]
  have e2:remS s b id=dN:=Di;rw[e1,e2]
  repeat' ((conv=>whnf);first|(exfalso;contradiction)|(exfalso;exact c2 ⟨Ag,Ag,Ag,Ag⟩)|refine zc h1 ?_|refine zc h2 ?_|refine zc h3 ?_|refine zc h4 ?_|refine zc h5 ?_|refine zS ?_|refine zT ?_ ?_<;>intro _|fail)
  all_goals exact zE
 obtain⟨c21,c22,c23,c24⟩:=c2;by_cases c3:lI s.shape (jT b (0,0));rotate_left
 ·have e1:remE s b id=13:=by unfold remE;rw[if_neg (fun h=>h c1),if_neg (fun h=>h ⟨c21,c22,c23,c24⟩),if_pos c3]
  have e2:remS s b id=dN:=Di;rw[e1,e2]
  repeat' ((conv=>whnf);first|(exfalso;contradiction)|refine zc h1 ?_|refine zc h2 ?_|refine zc h3 ?_|refine zc h4 ?_|refine zc h5 ?_|refine zc h6 ?_|refine zc h7 ?_|refine zS ?_|refine zT ?_ ?_<;>intro _|fail)
  all_goals exact zE
 have e1:remE s b id=0:=by unfold remE;rw[if_neg (fun h=>h c1),if_neg (fun h=>h ⟨c21,c22,c23,c24⟩),if_neg (fun h=>h c3)]
 have e2:remS s b id=⟨id,s.grade,s.heat,s.grain,jT b b.1,kJ b s.defects⟩:=by unfold remS;rw[if_pos e1]
 rw[e1,e2];have hl:(s.defects.map shV).length=s.defects.length:=Ae;generalize jT b b.1=r1 at*;generalize jT b (0,0)=r0 at*
 repeat' ((conv=>whnf);first|(exfalso;contradiction)|refine zc h1 ?_|refine zc h2 ?_|refine zc h3 ?_|refine zc h4 ?_|refine zc h5 ?_|refine zc h6 ?_|refine zc h7 ?_|refine zc h8 ?_|refine zS ?_|refine zT ?_ ?_<;>intro _|fail)
 all_goals conv=>whnf
 refine aU (A:=List Sh) (B:=List Sh) (fun D R=>aB2 s b id r1 (kJ b D) D.length) (fun D R=>s.defects=D++R) (fun D R=>R.length) [] s.defects ?_ rfl (fun D R hp=>?_)
 ·show Le T _ (aB2 s b id r1 [] 0)
  exact Nk
 have hXl:=yK b D;have hdl:=hs.2.1
 cases R with
 |nil=>
  have e:s.defects=D:=Af;have hlen:s.defects.length=D.length:=by rw[e]
  rw[e];generalize kJ b D=X at*
  cases X with
  |nil=>exact KL
  |cons x X=>exact KL
 |cons d R=>
  have hlen:=aO hp;have hdm:d∈s.defects:=Af
  have k1:=aS0 d (hs.2.2 d hdm);have k2:=cE9 (boxS d).1 b
  have k3:=aJ0 (nV (boxS d).1 b) b.1;have hsn:=bX0 b D d
  have hlD:((D++[d]).length:Int)=(D.length:Int)+1:=Ae;have hcd:aK2 b d=(open Classical in if xH (nV (boxS d).1 b)then [jT (nV (boxS d).1 b) b.1]else []):=rfl
  generalize kJ b D=X at*;generalize nV (boxS d).1 b=cb at*;generalize jT cb b.1=rr at*;by_cases hw:xH cb
  ·rw[if_pos hw]at hcd
   rw[hcd]at hsn
   cases X with
   |nil=>
    repeat' ((conv=>whnf);first|(exfalso;contradiction)|(exfalso;omega)|refine aB (l:=s.defects) Aa ?_|refine aF (l:=s.defects) (A:=D) (x:=d) (B:=R) hp Aa ?_|refine zc k1 ?_|refine zc k2 ?_|refine zc k3 ?_|refine gX (of_decide_eq_true rfl) (dA rfl) (of_decide_eq_true rfl) ?_|refine zS ?_|refine zT ?_ ?_<;>intro _|fail)
    all_goals conv=>whnf
    refine⟨(D++[d],R),?_,Af,Ae⟩;show Le T _ (aB2 s b id r1 (kJ b (D++[d])) (D++[d]).length);rw[hsn,hlD];show Le T _ (aB2 s b id r1 [rr] _);exact zj
   |cons x X=>
    have hx1:(x::X).length=X.length+1:=rfl
    repeat' ((conv=>whnf);first|(exfalso;contradiction)|(exfalso;omega)|refine aB (l:=s.defects) Aa ?_|refine aF (l:=s.defects) (A:=D) (x:=d) (B:=R) hp Aa ?_|refine zc k1 ?_|refine zc k2 ?_|refine zc k3 ?_|refine iH rfl (.inl rfl) rfl (of_decide_eq_true rfl) (dA rfl) (show((x::X).map shV).length+1<=1000000000 from FM) ?_|refine zS ?_|refine zT ?_ ?_<;>intro _|fail)
    all_goals conv=>whnf
    refine⟨(D++[d],R),?_,Af,Ae⟩;show Le T _ (aB2 s b id r1 (kJ b (D++[d])) (D++[d]).length);rw[hsn,hlD];show Le T _ (aB2 s b id r1 (x::(X++[rr])) _);unfold aB2;exact ND
  ·rw[if_neg hw]at hcd
   rw[hcd,List.append_nil]at hsn
   cases X with
   |nil=>
    repeat' ((conv=>whnf);first|(exfalso;contradiction)|(exfalso;omega)|refine aB (l:=s.defects) Aa ?_|refine aF (l:=s.defects) (A:=D) (x:=d) (B:=R) hp Aa ?_|refine zc k1 ?_|refine zc k2 ?_|refine zS ?_|refine zT ?_ ?_<;>intro _|fail)
    all_goals conv=>whnf
    refine⟨(D++[d],R),?_,Af,Ae⟩;show Le T _ (aB2 s b id r1 (kJ b (D++[d])) (D++[d]).length);rw[hsn,hlD];show Le T _ (aB2 s b id r1 [] _);exact zj
   |cons x X=>
    have hx1:(x::X).length=X.length+1:=rfl
    repeat' ((conv=>whnf);first|(exfalso;contradiction)|(exfalso;omega)|refine aB (l:=s.defects) Aa ?_|refine aF (l:=s.defects) (A:=D) (x:=d) (B:=R) hp Aa ?_|refine zc k1 ?_|refine zc k2 ?_|refine zS ?_|refine zT ?_ ?_<;>intro _|fail)
    all_goals conv=>whnf
    refine⟨(D++[d],R),?_,Af,Ae⟩;show Le T _ (aB2 s b id r1 (kJ b (D++[d])) (D++[d]).length);rw[hsn,hlD];show Le T _ (aB2 s b id r1 (x::X) _);exact zj
def pJ(s:jL):Prop:=s.id=0/\s.grade=aI/\s.heat=aI/\s.grain=0/\s.shape.outer.length=0/\s.shape.holes.length=0/\s.defects.length=0
def yT(b:Bar):Prop:=b.id=0/\b.grade=aI/\b.heat=aI/\b.length=0/\b.defects.length=0
theorem cV3(b:Bar):Sp 64 [barV b] (DB (yT b)):=by
 refine zsp Tryz.func64 ?_;have hr:yT b↔b.id=0/\b.grade=aI/\b.heat=aI/\b.length=0/\b.defects.length=0:=Iff.rfl;generalize yT b=P at*;have l1:(b.defects.map ivV).length=b.defects.length:=Ae
 repeat' ((conv=>whnf);first|refine jI (fun heq=>?_) (fun heq=>?_)|refine zS ?_|refine zT ?_ ?_<;>intro _|fail)
 all_goals conv=>whnf
 all_goals first
  |exact aA (sK ⟨fun h=>hr.2 ⟨Aa,Ag,Ag,Aa,Aa⟩,fun h=>by have:=(hr.1 h).2.2.2.2;omega⟩)
  |exact aA (aC (fun h=>GV))
  |exact aA (aC (fun h=>absurd (hr.1 h).2.1 Ag))
  |exact aA (aC (fun h=>absurd (hr.1 h).2.2.1 Ag))
theorem aW0(n:Int):Sp 110 [I n] (DB (nC n)):=by
 refine zsp Tryz.func110 ?_
 repeat' ((conv=>whnf);first|refine zS ?_|refine zT ?_ ?_<;>intro _|fail)
 all_goals conv=>whnf
 all_goals first
  |exact aA (le_dec ⟨fun h=>⟨Aa,Aa⟩,fun h=>h.2⟩)
  |exact aA (aC (fun h=>by have:=h.1;omega))
def fC6(b:Bool):Int:=if b then 1 else 0
theorem oL(b:Bool):Sp 76 [B b] (I (fC6 b)):=by
 refine zsp Tryz.func76 ?_;cases b
 ·exact zF
 ·exact zF
def sid(x:aN):Int:=if x.isBar then x.bar.id else x.sheet.id
theorem aE2(x:aN):Sp 111 [aQ x] (I (sid x)):=by
 refine zsp Tryz.func111 ?_;exact PE
def eY(x:aN):Prop:=lK x.sheet/\x.bar.defects.length<=1000000
def gG(x:aN):Int:=if x.isBar then x.bar.length else uK x.sheet.shape
theorem vF(x:aN)(hx:eY x):Sp 22 [aQ x] (I (gG x)):=by
 refine zsp Tryz.func22 ?_;have h1:=cG8 x.sheet.shape hx.1.1;exact PE
end Go.Proofs.Led
