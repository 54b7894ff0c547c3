/-
  The reference's way to tell where a whole point lies, walked.
-/
import Derived.Test.YtkhhdojgbkophaaGreatQB19
set_option linter.unusedVariables false
set_option linter.unusedSimpArgs false
set_option maxRecDepth 100000
set_option maxHeartbeats 8000000
noncomputable section
namespace Go.Proofs.Led
open Go Go.Proofs Go.Ab
def ptW(v:Vc):V:= .agg [I v.1,I v.2,I 1]
theorem gJ6{a b v:Vc}(ha:Sm4 a)(hb:Sm4 b)(hv:Sm4 v):cmpI (W (W ((vsub b a).1*W (v.2-W (a.2*1)))-W ((vsub b a).2*W (v.1-W (a.1*1))))) 0=kR a b v:=by
 rw[zH ha hb hv,kN (a:=b) (b:=a) (by unfold Sm4 at*;unfold Sm;omega) (by unfold Sm4 at*;unfold Sm;omega)]
 unfold Sm4 at*;simp only[Int.mul_one];rw[w_in (n:=a.1) Aa,w_in (n:=a.2) Aa,w_in (n:=v.2-a.2) Aa,w_in (n:=v.1-a.1) Aa];have q1:=vG (a:=b.1-a.1) (b:=v.2-a.2) ⟨Aa,Aa⟩ ⟨Aa,Aa⟩;have q2:=vG (a:=b.2-a.2) (b:=v.1-a.1) ⟨Aa,Aa⟩ ⟨Aa,Aa⟩
 rw[w_in (n:=(b.1-a.1)*(v.2-a.2)) Aa,w_in (n:=(b.2-a.2)*(v.1-a.1)) Aa,w_in Aa];rfl
theorem fO8(a b v:Vc)(ha:Sm4 a)(hb:Sm4 b)(hv:Sm4 v):Sp 352 [vcV a,vcV b,ptW v] (I (kR a b v)):=by
 refine zsp Tryz.func352 ?_;have h1:=fD b a;have h2:=fO5 (W (W ((vsub b a).1*W (v.2-W (a.2*1)))-W ((vsub b a).2*W (v.1-W (a.1*1)))))
 rw[gJ6 ha hb hv]at h2;generalize vsub b a=u at*;generalize kR a b v=t at*
 repeat' ((conv=>whnf);first|refine zc h1 ?_|refine zc h2 ?_|refine zg ?_|refine zw ?_|refine zr ?_)
 all_goals exact zE
theorem gE2(e:Sg)(v:Vc)(he:bI e)(hv:Sm4 v):Sp 351 [sgV e,ptW v] (DB (eX e v)):=by
 refine zsp Tryz.func351 ?_;obtain⟨ha,hb⟩:=jP.1 he
 have hr:eX e v↔Bb e v/\kR e.1 e.2 v=0:=by
  rw[gZ he];constructor
  ·rintro⟨h1,h2⟩
   refine⟨h1,?_⟩;rw[zH ha hb hv,h2];rfl
  ·rintro⟨h1,h2⟩
   refine⟨h1,?_⟩;by_cases q:X (dif e.2 e.1) (dif v e.1)=0
   ·exact q
   ·rw[zH ha hb hv]at h2
    exact absurd h2 (tC.2 q)
 unfold Bb at hr;have h2:=fO8 e.1 e.2 v ha hb hv;unfold Sm4 at ha hb hv;generalize eX e v=P at*;generalize kR e.1 e.2 v=t at*
 repeat' ((conv=>whnf);first|refine eH4 (by simp only[lH,mG];omega) ?_|refine zc h2 ?_|refine zS ?_|refine zT ?_ ?_<;>intro _|fail)
 all_goals conv=>whnf
 all_goals refine aA ?_
 all_goals (try simp only[lH,mG,Int.mul_one]at*)
 all_goals first
  |(refine sK ?_;rw[hr];exact⟨fun h=>⟨⟨Aa,Aa,Aa,Aa⟩,h⟩,fun h=>h.2⟩)
  |(refine aC (fun h=>?_);have h':=(hr.1 h).1;omega)
theorem fQ0(n:Int)(hn: -1000000<=n/\n<=1000000):Sp 372 [I n] (I (n.natAbs:Int)):=by
 refine zsp Tryz.func372 ?_
 repeat' ((conv=>whnf);first|refine zS ?_|refine zT ?_ ?_<;>intro _|fail)
 all_goals conv=>whnf
 all_goals refine aG ?_
 all_goals omega
theorem fI5(a b:Int):Sp 371 [I a,I b] (I (gcdI a b)):=by
 refine zsp Tryz.func371 ?_
 repeat' ((conv=>whnf);first|refine zS ?_|fail)
 refine aU (A:=Int) (B:=Int) (fun x y=>mkSt [(0,I x),(1,I y)] [] []) (fun x y=>gcdI x y=gcdI a b) (fun x y=>y.natAbs) a b ?_ rfl (fun x y hp=>?_)
 ·exact zj
 have hp:gcdI x y=gcdI a b:=hp;by_cases h0:y=0
 ·subst h0
  have e:gcdI x 0=x:=by rw[gcdI];simp
  rw[<-hp,e];exact Qd
 ·exact Lh
theorem gG8(g:Int):gcdI g 1=1:=by
 rw[gcdI,dif_neg Aq,gcdI,dif_pos (by rw[Int.tmod_one])]
theorem fS2(v:Vc)(hv:Sm4 v):Sp 350 [ptW v] (.lit (.bool true)):=by
 refine zsp Tryz.func350 ?_;have h1:=fQ0 v.1 (by unfold Sm4 at hv;omega)
 have h2:=fQ0 v.2 (by unfold Sm4 at hv;omega)
 have h3:=fI5 (v.1.natAbs:Int) (v.2.natAbs:Int);have h4:=fI5 (gcdI (v.1.natAbs:Int) (v.2.natAbs:Int)) 1
 rw[gG8]at h4;generalize gcdI (v.1.natAbs:Int) (v.2.natAbs:Int)=g at*;unfold Sm4 at hv
 repeat' ((conv=>whnf);first|(exfalso;omega)|refine zc h1 ?_|refine zc h2 ?_|refine zc h3 ?_|refine zc h4 ?_|refine zS ?_|refine zT ?_ ?_<;>intro _|fail)
 all_goals conv=>whnf
 exact aK (aA1.2 rfl)
theorem fQ9(p:Vc):Sp 308 [vcV p] (ptW p):=by
 refine zsp Tryz.func308 ?_;exact QT
theorem fJ9{e:Sg}{v:Vc}(he:bI e)(hv:Sm4 v)(hn:¬eX e v):rW (v.1,v.2,1) e↔rayC e v (kR e.1 e.2 v):=by
 obtain⟨ha,hb⟩:=jP.1 he;rw[dD7 hv he hn,zH ha hb hv];unfold rayC cmpI;generalize X (dif e.2 e.1) (dif v e.1)=x;split
 ·omega
 ·split<;>omega
theorem gA7{r:Rg}{v:Vc}(h:¬dM r):fJ r v=0:=by
 unfold fJ;split
 ·exact eA4 (.inl h)
 ·rfl
theorem fZ2{r:Rg}{v:Vc}(h:dM r)(hv:Sm4 v):fJ r v=lU (v.1,v.2,1) (bF r) false:=by
 rw[aC1 (pY.2 hv),aD9 h (bC7 hv)]
theorem fR7(r:Rg)(v:Vc)(hl:r.length<=1000000)(hv:Sm4 v):Sp 307 [rgV r,ptW v] (I (fJ r v)):=by
 refine zsp Tryz.func307 ?_;have g1:=fE9 r hl;have g2:=fS2 v hv
 have g3:=fE7 r hl;by_cases hr:dM r;rotate_left
 ·rw[gA7 hr]
  repeat' ((conv=>whnf);first|(exfalso;contradiction)|refine zc g1 ?_|refine zS ?_|refine zT ?_ ?_<;>intro _|fail)
  all_goals exact zE
 have h3:=hr.1;have hE2:=hr.2.1
 have hE:=fZ2 hr hv;have hne:∀e∈bF r,bI e:=fun e he=>jO hr.2.2.1 he
 have hel:=dT0 (r:=r) Aa;generalize fJ r v=A at*;generalize bF r=E at*;have hem:(E.map sgV).length=E.length:=by rw[List.length_map]
 repeat' ((conv=>whnf);first|(exfalso;contradiction)|refine zc g1 ?_|refine zc g2 ?_|refine zc g3 ?_|refine zS ?_|refine zT ?_ ?_<;>intro _|fail)
 refine oU (A:=List Sg) (B:=List Sg) (C:=Bool) (fun D R ins=>mkSt [(3, .box 3 0),(5, .sl (E.map sgV)),(6,B ins),(7,I D.length)] [(3,[I v.1,I v.2,I 1])] []) (fun D R ins=>E=D++R/\A=lU (v.1,v.2,1) R ins) (fun D R ins=>R.length) [] E false ?_ ⟨rfl,hE⟩ (fun D R ins hp=>?_)
 ·refine Le.trans (fB (k:=21) rfl (.inl rfl)) ?_
  exact zj
 clear hE;obtain⟨hp,hA⟩:=hp
 cases R with
 |nil=>
  have hlen:E.length=D.length:=Ac;rw[qB]at hA;exact Rx
 |cons e R=>
  have hlen:=aO hp;have heo:=hne e Ac
  obtain⟨ha,hb⟩:=jP.1 heo;have k1:=gE2 e v heo hv;have k2:=fO8 e.1 e.2 v ha hb hv
  have w1:=fun q=>oP (p:=(v.1,v.2,1)) (e:=e) (es:=R) (b:=ins) ((cC3 hv heo).2 q);have w2:¬eX e v->rayC e v (kR e.1 e.2 v)->A=lU (v.1,v.2,1) R (!ins):=fun q1 q2=>Pn
  have w3:¬eX e v->¬rayC e v (kR e.1 e.2 v)->A=lU (v.1,v.2,1) R ins:=fun q1 q2=>OH;unfold rayC at w2 w3;rw[<-hA]at w1;generalize eX e v=P at*;generalize kR e.1 e.2 v=t at*;unfold Sm4 at ha hb hv
  repeat' ((conv=>whnf);first|(exfalso;omega)|refine cC0 [(5,999),(7,999),(34,999),(35,999),(36,999),(37,999),(39,999),(40,999),(41,999),(42,999),(8,8),(9,9)] Ae Ad ?_|refine aB (l:=E) Aa ?_|refine aF (l:=E) (A:=D) (x:=e) (B:=R) hp Aa ?_|refine zc k1 ?_|refine zc k2 ?_|refine zS ?_|refine zT ?_ ?_<;>intro _|fail)
  all_goals conv=>whnf
  all_goals first
   |exact aG (w1 Ag).symm
   |skip
  all_goals first
   |(have hA2:=w2 Ag Aa)
   |(have hA2:=w3 Ag Aa)
  all_goals first
   |refine⟨(D++[e],R, !ins),?_,⟨Ac,hA2⟩,Af⟩
   |refine⟨(D++[e],R,ins),?_,⟨Ac,hA2⟩,Af⟩
  all_goals simp only[List.length_append,List.length_singleton]
  all_goals (refine dV ?_ ?_ ?_ ?_)
  all_goals repeat' (first|exact trivial|refine And.intro ?_ ?_|with_reducible rfl|exact(fun h=>Ah)|exact Nat.le_refl _|omega|exact rfl)
theorem fN0(r:Rg)(v:Vc)(hl:r.length<=1000000)(hv:Sm4 v):Sp 254 [rgV r,vcV v] (I (fJ r v)):=by
 refine zsp Tryz.func254 ?_;have g1:=fP v 8000;have g2:=fQ9 v
 have g3:=fR7 r v hl hv
 have hw:within v 8000:=by
  rw[within_iff Aa];unfold Sm4 at hv;omega
 generalize fJ r v=A at*
 repeat' ((conv=>whnf);first|(exfalso;contradiction)|refine zc g1 ?_|refine zc g2 ?_|refine zc g3 ?_|refine zS ?_|refine zT ?_ ?_<;>intro _|fail)
 all_goals exact zE
theorem fM3(l:List Rg):∀y∈l.map rgV,y.cells.length=1:=fun y hy=>AX
theorem fE1(s:Sh)(hs:gV s):Sp 258 [shV s] (.own 39 ((rings s).map rgV)):=by
 refine zsp Tryz.func258 ?_;have hh:=hs.2.1
 repeat' ((conv=>whnf);first|refine iH rfl (.inl rfl) rfl (of_decide_eq_true rfl) (fM3 s.holes) (by show 1+(s.holes.map rgV).length<=1000000000;rw[List.length_map];omega) ?_|refine zS ?_|fail)
 all_goals conv=>whnf
 exact RV
def RPoint(a b:Rg):Prop:=∃x∈bF a,∃y∈bF b,dG x y≠0
theorem fT1{r:Rg}(hn:bR7 r):∀e∈bF r,bI e:=fun e he=>jO hn he
theorem fF2(a b:Rg)(ha:a.length<=1000000)(hb:b.length<=1000000)(hna:bR7 a)(hnb:bR7 b):Sp 202 [rgV a,rgV b] (DB (¬uV a b)):=by
 refine zsp Tryz.func202 ?_;have hea:=fE7 a ha;have heb:=fE7 b hb
 have oa:=fT1 hna;have ob:=fT1 hnb
 have la:(bF a).length<=1000000:=Gv;have lb:(bF b).length<=1000000:=Gv
 have hr:(¬uV a b)↔∃x∈bF a,∃y∈bF b,dG x y≠0:=by
  unfold uV;constructor
  ·intro h
   by_cases q:∃x∈bF a,∃y∈bF b,dG x y≠0
   ·exact q
   ·exfalso
    apply h;intro x hx y hy;by_cases q2:dG x y=0
    ·exact q2
    ·exact absurd ⟨x,hx,y,hy,q2⟩ q
  ·rintro⟨x,hx,y,hy,q⟩ h
   exact q (h x hx y hy)
 generalize (¬uV a b)=P at*;generalize bF a=A at*;generalize bF b=B at*;have hAm:(A.map sgV).length=A.length:=Af;have hBm:(B.map sgV).length=B.length:=Af
 repeat' ((conv=>whnf);first|refine zc hea ?_|refine zc heb ?_|refine zS ?_|fail)
 refine aU (A:=List Sg) (B:=List Sg) (fun D R=>mkSt [(5, .sl (A.map sgV)),(6, .sl (B.map sgV)),(7,I D.length)] [] []) (fun D R=>A=D++R/\∀x∈D,∀y∈B,dG x y=0) (fun D R=>R.length) [] A ?_ ⟨rfl,Af⟩ (fun D R hp=>?_)
 ·exact Ot
 obtain⟨hp,hD⟩:=hp
 cases R with
 |nil=>
  have hlen:A.length=D.length:=Ac
  repeat' ((conv=>whnf);first|(exfalso;omega)|refine zS ?_|refine zT ?_ ?_<;>intro _|fail)
  all_goals conv=>whnf
  refine aA (aC ?_);rw[hr,hp,List.append_nil];rintro⟨x,hx,y,hy,hm⟩;exact hm (hD x hx y hy)
 |cons x R=>
  have hlen:=aO hp;have ox:=oa x Ac
  repeat' ((conv=>whnf);first|(exfalso;omega)|refine zS ?_|refine zT ?_ ?_<;>intro _|fail)
  refine aU (A:=List Sg) (B:=List Sg) (fun E S=>mkSt [(5, .sl (A.map sgV)),(6, .sl (B.map sgV)),(7,I D.length),(8,I E.length)] [] []) (fun E S=>B=E++S/\∀y∈E,dG x y=0) (fun E S=>S.length) [] B ?_ ⟨rfl,Af⟩ (fun E S hq=>?_)
  ·exact zj
  obtain⟨hq,hE⟩:=hq
  cases S with
  |nil=>exact Pq
  |cons y S=>
   have hlen2:=aO hq;have km:=fI7 x y ox (ob y Am)
   have hbad:dG x y≠0->P:=fun h=>hr.2 ⟨x,Ac,y,Am,h⟩;have hgood:dG x y=0->∀z∈E++[y],dG x z=0:=fun h z hz=>O0
   generalize dG x y=m at*
   repeat' ((conv=>whnf);first|(exfalso;omega)|refine aB (l:=A) Aa ?_|refine aB (l:=B) Aa ?_|refine aF (l:=A) (A:=D) (x:=x) (B:=R) hp Aa ?_|refine aF (l:=B) (A:=E) (x:=y) (B:=S) hq Aa ?_|refine zc km ?_|refine zS ?_|refine zT ?_ ?_<;>intro _|fail)
   all_goals conv=>whnf
   all_goals first
    |exact aA (fE (hbad Ag))
    |skip
   refine⟨(E++[y],S),?_,⟨Am,hgood Ag⟩,Af⟩;exact P6
def fE4(a b:Rg):Prop:=∃v∈a,fJ b v=2
theorem dbT{p:Prop}(h:p):DB p= .lit (.bool true):=congrArg (fun b=>V.lit (.bool b)) (dH.2 h)
theorem dbF{p:Prop}(h:¬p):DB p= .lit (.bool false):=congrArg (fun b=>V.lit (.bool b)) (dW.2 h)
theorem gJ8{a b:Int}{A B:Prop}(h1:a=b->A)(h2:a≠b->B):branch (!eqBB (eqB a b) true) B A:=by
 rw[cA1]
 cases hq:eqB a b with
 |true=>exact jU (fun h=>FZ) (fun h=>h1 (aA1.1 hq))
 |false=>exact jU (fun h=>h2 (fun e=>by rw[aA1.2 e]at hq;cases hq)) (fun h=>FZ)
theorem gJ5{a b:Int}{A B:Prop}(h1:a=b->A)(h2:a≠b->B):branch (!eqBB (eqB a b) false) A B:=by
 rw[cA1]
 cases hq:eqB a b with
 |true=>exact jU (fun h=>h1 (aA1.1 hq)) (fun h=>FZ)
 |false=>exact jU (fun h=>FZ) (fun h=>h2 (fun e=>by rw[aA1.2 e]at hq;cases hq))
theorem fI2(a b:Rg)(ha:a.length<=1000000)(hb:b.length<=1000000)(hna:bR7 a):Sp 203 [rgV a,rgV b, .lit (.bool true)] (DB (pR a b 2)):=by
 refine zsp Tryz.func203 ?_;have hll:(a.map vcV).length=a.length:=Af;have hr:pR a b 2↔∀v∈a,fJ b v=2:=Iff.rfl
 generalize pR a b 2=P at*
 repeat' ((conv=>whnf);first|refine zS ?_|fail)
 refine aU (A:=List Vc) (B:=List Vc) (fun D R=>mkSt [(0,rgV a),(1,rgV b),(2, .lit (.bool true)),(7,I D.length)] [] []) (fun D R=>a=D++R/\∀v∈D,fJ b v=2) (fun D R=>R.length) [] a ?_ ⟨rfl,Af⟩ (fun D R hp=>?_)
 ·exact zj
 obtain⟨hp,hD⟩:=hp
 cases R with
 |nil=>
  have hlen:a.length=D.length:=Ac
  repeat' ((conv=>whnf);first|(exfalso;omega)|refine zS ?_|refine zl (fun hlt=>?_) (fun hlt=>?_))
  all_goals conv=>whnf
  exact aA (fE (hr.2 fun v hv=>Ee))
 |cons x R=>
  have hlen:=aO hp;have hx:x∈a:=Ac
  have h1:=fN0 b x hb (vN hna hx);have hbad:fJ b x≠2->¬P:=fun h q=>h (hr.1 q x hx)
  have hgood:fJ b x=2->∀v∈D++[x],fJ b v=2:=fun h v hv=>ML;generalize fJ b x=w at*
  repeat' ((conv=>whnf);first|(exfalso;omega)|refine aB (l:=a) Aa ?_|refine aF (l:=a) (A:=D) (x:=x) (B:=R) hp Aa ?_|refine gJ8 (fun heq=>?_) (fun heq=>?_)|refine zc h1 ?_|refine zS ?_|refine zl (fun hlt=>?_) (fun hlt=>?_))
  all_goals conv=>whnf
  ·exact LQ
  ·exact aA (aC (hbad heq))
theorem fE2(a b:Rg)(ha:a.length<=1000000)(hb:b.length<=1000000)(hna:bR7 a):Sp 203 [rgV a,rgV b, .lit (.bool false)] (DB (fE4 a b)):=by
 refine zsp Tryz.func203 ?_;have hll:(a.map vcV).length=a.length:=Af;have hr:fE4 a b↔∃v∈a,fJ b v=2:=Iff.rfl
 generalize fE4 a b=P at*
 repeat' ((conv=>whnf);first|refine zS ?_|fail)
 refine aU (A:=List Vc) (B:=List Vc) (fun D R=>mkSt [(0,rgV a),(1,rgV b),(2, .lit (.bool false)),(7,I D.length)] [] []) (fun D R=>a=D++R/\∀v∈D,fJ b v≠2) (fun D R=>R.length) [] a ?_ ⟨rfl,Af⟩ (fun D R hp=>?_)
 ·exact zj
 obtain⟨hp,hD⟩:=hp
 cases R with
 |nil=>
  have hlen:a.length=D.length:=Ac;exact Rl
 |cons x R=>
  have hlen:=aO hp;have hx:x∈a:=Ac
  have h1:=fN0 b x hb (vN hna hx);have hbad:fJ b x=2->P:=fun h=>hr.2 ⟨x,hx,h⟩
  have hgood:fJ b x≠2->∀v∈D++[x],fJ b v≠2:=fun h v hv=>ML;generalize fJ b x=w at*
  repeat' ((conv=>whnf);first|(exfalso;omega)|refine aB (l:=a) Aa ?_|refine aF (l:=a) (A:=D) (x:=x) (B:=R) hp Aa ?_|refine gJ5 (fun heq=>?_) (fun heq=>?_)|refine zc h1 ?_|refine zS ?_|refine zl (fun hlt=>?_) (fun hlt=>?_))
  all_goals conv=>whnf
  ·exact aA (fE (hbad heq))
  ·exact LQ
def xG(h k:Rg):Prop:=uV h k/\¬fE4 h k/\¬fE4 k h
def fK3(o:Rg)(pre:List Rg)(h:Rg):Prop:=dM h/\uV h o/\pR h o 2/\∀k∈pre,xG h k
def fF4(o:Rg):List Rg->List Rg->Prop
 |_,[] =>True
 |pre,h::l=>fK3 o pre h/\fF4 o (pre++[h]) l
theorem fM6{a b:Rg}(h:Apart a b):¬fE4 a b↔pR a b 0:=by
 unfold fE4 pR;constructor
 ·intro q v hv
  rcases cJ3 (r:=b) (v:=v)with k|k|k
  ·exact k
  ·exact absurd ((nZ h.ob (vN h.oa.2.2.1 hv)).1 k) (h.off (vert_onR h.oa hv))
  ·exact absurd ⟨v,hv,k⟩ q
 ·rintro q ⟨v,hv,k⟩
  have:=q v hv;omega
theorem gA1{o:Rg}{pre:List Rg}{h:Rg}(ho:dM o)(hpre:∀k∈pre,dM k):fK3 o pre h↔dM h/\cU0 o pre h:=by
 unfold fK3 cU0 xG;constructor
 ·rintro⟨h1,h2,h3,h4⟩
  refine⟨h1,h3,h2,fun k hk=>?_⟩;obtain⟨q1,q2,q3⟩:=h4 k hk;have ap:Apart h k:=⟨h1,hpre k hk,q1⟩
  exact⟨q1,(fM6 ap).1 q2,(fM6 ap.symm).1 q3⟩
 ·rintro⟨h1,h3,h2,h4⟩
  refine⟨h1,h2,h3,fun k hk=>?_⟩;obtain⟨q1,q2,q3⟩:=h4 k hk;have ap:Apart h k:=⟨h1,hpre k hk,q1⟩
  exact⟨q1,(fM6 ap).2 q2,(fM6 ap.symm).2 q3⟩
theorem fF7{o:Rg}(ho:dM o):∀ {l pre:List Rg},(∀k∈pre,dM k)->(fF4 o pre l↔(∀k∈l,dM k)/\qR o pre l)
 | [],pre,_=>⟨fun _=>⟨(fun k hk=>by cases hk),trivial⟩,fun _=>trivial⟩
 |h::l,pre,hpre=>by
  have e1:=gA1 (h:=h) ho hpre;show fK3 o pre h/\fF4 o (pre++[h]) l↔_/\(cU0 o pre h/\qR o (pre++[h]) l);constructor
  ·rintro⟨h1,h2⟩
   obtain⟨k1,k2⟩:=e1.1 h1
   obtain⟨k3,k4⟩:=(fF7 ho (pre:=pre++[h]) (fun k hk=>by
    rcases List.mem_append.1 hk with hk|hk
    ·exact hpre k hk
    ·rw[List.mem_singleton.1 hk];exact k1)).1 h2
   refine⟨fun k hk=>?_,k2,k4⟩;rcases List.mem_cons.1 hk with rfl|hk
   ·exact k1
   ·exact k3 k hk
  ·rintro⟨h1,h2,h3⟩
   have k1:=h1 h Af;refine⟨e1.2 ⟨k1,h2⟩,(fF7 ho (pre:=pre++[h]) (fun k hk=>?_)).2 ⟨fun k hk=>h1 k (by simp[hk]),h3⟩⟩
   rcases List.mem_append.1 hk with hk|hk
   ·exact hpre k hk
   ·rw[List.mem_singleton.1 hk];exact k1
theorem fM1{s:Sh}:bG s↔s.holes.length<=6/\dM s.outer/\fF4 s.outer [] s.holes/\corners (rings s)<=80:=by
 unfold bG;constructor
 ·rintro⟨h1,h2,h3,h4⟩
  have ho:=h2 s.outer AA;exact⟨h1,ho,(fF7 ho (fun k hk=>by cases hk)).2 ⟨fun k hk=>h2 k (by unfold rings;simp[hk]),h4⟩,h3⟩
 ·rintro⟨h1,ho,h2,h3⟩
  obtain⟨k1,k2⟩:=(fF7 ho (fun k hk=>by cases hk)).1 h2
  refine⟨h1,fun r hr=>?_,h3,k2⟩;rcases List.mem_cons.1 (show r∈s.outer::s.holes from hr)with rfl|hr
  ·exact ho
  ·exact k1 r hr
theorem fO1(a b:List Rg):corners (a++b)=corners a+corners b:=FM
theorem fH9(r:Rg)(l:List Rg):corners (r::l)=r.length+corners l:=FM
theorem fN4:∀ {l:List Rg},(∀r∈l,dM r)->corners l<=40*l.length
 | [],_=>FM
 |r::l,h=>by
  have h1:=(h r Af).2.1;have h2:=fN4 (l:=l) (fun x hx=>h x Bq)
  rw[fH9,List.length_cons];omega
theorem aD7(s:Sh)(hs:gV s):Sp 144 [shV s] (DB (bG s)):=by
 refine zsp Tryz.func144 ?_;have hr:=fM1 (s:=s);have hml:(s.holes.map rgV).length=s.holes.length:=Af
 have g1:=fE9 s.outer hs.1;have hol:=hs.1
 have hhl:=hs.2.1;have hcr:corners (rings s)=s.outer.length+corners s.holes:=fH9 _ _
 rw[hcr]at hr;clear hcr;generalize bG s=P at*;by_cases ho:dM s.outer;rotate_left
 ·exact LZ
 rw[dbT ho]at g1
 repeat' ((conv=>whnf);first|refine zc g1 ?_|refine zS ?_|refine zT ?_ ?_<;>intro _|fail)
 all_goals conv=>whnf
 all_goals first
  |exact aA (aC (fun h=>I5))
  |skip
 have ho40:=ho.2.1;have h6:s.holes.length<=6:=Aa
 refine aU (A:=List Rg) (B:=List Rg) (fun D R=>mkSt [(1, .box 1 0),(3,I ((s.outer.length+corners D:Nat):Int)),(4,I D.length)] [(1,(shV s).cells)] []) (fun D R=>s.holes=D++R/\(∀k∈D,dM k)/\(P↔fF4 s.outer D R/\s.outer.length+corners s.holes<=80)) (fun D R=>R.length) [] s.holes ?_ ⟨rfl,Af,⟨fun h=>(hr.1 h).2.2,fun h=>hr.2 ⟨h6,ho,h⟩⟩⟩ (fun D R hp=>?_)
 ·exact LU
 clear hr;obtain⟨hp,hD,hr⟩:=hp;have hcD:=fN4 hD
 cases R with
 |nil=>exact La
 |cons h R=>
  have hlen:=aO hp;have hhm:h∈s.holes:=Ac
  have hh1:=hs.2.2 h hhm;have hhm2:(h.map vcV).length=h.length:=Af
  have hcs:corners (D++[h])=corners D+h.length:=by rw[fO1];unfold corners;simp
  have gv:=fE9 h hh1;have hr':P↔(fK3 s.outer D h/\fF4 s.outer (D++[h]) R)/\s.outer.length+corners s.holes<=80:=hr
  by_cases hok:dM h;rotate_left
  ·exact KQ
  rw[dbT hok]at gv;have h40:=hok.2.1;exact PG
theorem gI8(r:Rg):W (zY r)=zY r:=by
 unfold zY
 cases r.length with
 |zero=>rfl
 |succ n=>rw[bC2];exact w_in (nT _)
theorem wsub(a b:Int):W (W a-b)=W (a-b):=by
 have e:∃k:Int,W a=a+k*18446744073709551616:=by
  refine⟨(W a-a)/18446744073709551616,?_⟩;exact TP
 obtain⟨k,hk⟩:=e;rw[hk];simp[IntKind.wrap,IntKind.signed,IntKind.bits];split<;>split<;>omega
theorem fV7{s:Sh}(h:bG s):uK s=s.holes.foldl (fun a r=>W (a-zY r)) (zY s.outer):=by
 have ho:dM s.outer:=h.2.1 _ AA;have hh:∀r∈s.holes,dM r:=fun r hr=>h.2.1 r DY
 have e1:∀ {r:Rg},dM r->nG r=zY r:=fun q=>if_pos q;rw[eI3 h];unfold rings qH;rw[List.foldl_cons,e1 ho,wsub,show 2*zY s.outer-zY s.outer=zY s.outer from Aa,gI8];generalize zY s.outer=a
 have key:∀(l:List Rg) (a:Int),(∀r∈l,dM r)->l.foldl (fun a r=>W (a-nG r)) a=l.foldl (fun a r=>W (a-zY r)) a:=by
  intro l
  induction l with
  |nil=>intro a _;rfl
  |cons x l ih=>
   intro a hl;rw[List.foldl_cons,List.foldl_cons,e1 (hl x Af)];exact ih _ (fun r hr=>hl r Jy)
 exact key _ _ hh
theorem fK5(s:Sh)(hs:gV s):Sp 67 [shV s] (I (uK s)):=by
 refine zsp Tryz.func67 ?_;have hml:(s.holes.map rgV).length=s.holes.length:=Af;have g0:=aD7 s hs
 have g1:=fG8 s.outer hs.1;have hhl:=hs.2.1
 by_cases h:bG s;rotate_left
 ·rw[dbF h]at g0
  rw[eC2 h];exact QD
 rw[dbT h]at g0;rw[fV7 h];have hst:∀D x,(D++[x]).foldl (fun a r=>W (a-zY r)) (zY s.outer)=W (D.foldl (fun a r=>W (a-zY r)) (zY s.outer)-zY x):=fun D x=>H6;generalize zY s.outer=a0 at*
 repeat' ((conv=>whnf);first|refine zc g0 ?_|refine zc g1 ?_|refine zg ?_)
 refine aU (A:=List Rg) (B:=List Rg) (fun D R=>mkSt [(1, .box 1 0),(3,I (D.foldl (fun a r=>W (a-zY r)) a0)),(4,I D.length)] [(1,(shV s).cells)] []) (fun D R=>s.holes=D++R) (fun D R=>R.length) [] s.holes ?_ rfl (fun D R hp=>?_)
 ·exact zj
 cases R with
 |nil=>
  have hlen:s.holes.length=D.length:=Dz;have e:s.holes=D:=Dz
  rw[e];generalize D.foldl (fun a r=>W (a-zY r)) a0=A at*;exact Qd
 |cons x R=>
  have hlen:=aO hp;have gx:=fG8 x (hs.2.2 x Ac)
  have e:=hst D x;generalize zY x=ax at*;generalize hA:D.foldl (fun a r=>W (a-zY r)) a0=A at*
  repeat' ((conv=>whnf);first|(exfalso;omega)|refine aB (l:=s.holes) Aa ?_|refine aF (l:=s.holes) (A:=D) (x:=x) (B:=R) hp Aa ?_|refine fK (m:=(D.length:Int)+1) (w_in Aa) ?_|refine zc gx ?_|refine zg ?_|refine zw ?_|refine zz (fun _=>?_) fun _=>?_)
  all_goals conv=>whnf
  refine⟨(D++[x],R),?_,Ac,Af⟩;simp only[e,List.length_append,List.length_singleton];exact zj
end Go.Proofs.Led
