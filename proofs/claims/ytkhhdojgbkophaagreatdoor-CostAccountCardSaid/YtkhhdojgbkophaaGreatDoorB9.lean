/-
  The reference's way to tell where a whole point lies, walked.
-/
import Derived.Test.YtkhhdojgbkophaaGreatDoorB8
set_option linter.unusedVariables false
set_option linter.unusedSimpArgs false
set_option maxRecDepth 100000
set_option maxHeartbeats 8000000
noncomputable section
namespace Go.Proofs.Led
open Go Go.Proofs Go.Ab
def ptW(v:Vc):V:= .agg [I v.1,I v.2,I 1]
theorem gJ6{a b v:Vc}(ha:Sm4 a)(hb:Sm4 b)(hv:Sm4 v):cmpI (W (W ((vsub b a).1*W (v.2-W (a.2*1)))-W ((vsub b a).2*W (v.1-W (a.1*1))))) 0=kR a b v:=by
 rw[zH ha hb hv,kN (a:=b) (b:=a) (by unfold Sm4 at*;unfold Sm;omega) (by unfold Sm4 at*;unfold Sm;omega)]
 unfold Sm4 at*;simp only[Int.mul_one];rw[w_in (n:=a.1) Aa,w_in (n:=a.2) Aa,w_in (n:=v.2-a.2) Aa,w_in (n:=v.1-a.1) Aa];have q1:=vG (a:=b.1-a.1) (b:=v.2-a.2) ⟨Aa,Aa⟩ ⟨Aa,Aa⟩;have q2:=vG (a:=b.2-a.2) (b:=v.1-a.1) ⟨Aa,Aa⟩ ⟨Aa,Aa⟩
 rw[w_in (n:=(b.1-a.1)*(v.2-a.2)) Aa,w_in (n:=(b.2-a.2)*(v.1-a.1)) Aa,w_in Aa];rfl
theorem fO8(a b v:Vc)(ha:Sm4 a)(hb:Sm4 b)(hv:Sm4 v):Sp 254 [vcV a,vcV b,ptW v] (I (kR a b v)):=by
 refine zsp Tryz.func254 ?_;have h1:=fD b a;have h2:=fO5 (W (W ((vsub b a).1*W (v.2-W (a.2*1)))-W ((vsub b a).2*W (v.1-W (a.1*1)))))
 rw[gJ6 ha hb hv]at h2;generalize vsub b a=u at*;generalize kR a b v=t at*
 repeat' ((conv=>whnf);first|refine zc h1 ?_|refine zc h2 ?_|refine zg ?_|refine zw ?_|refine zr ?_)
 all_goals exact zE
theorem gE2(e:Sg)(v:Vc)(he:bI e)(hv:Sm4 v):Sp 253 [sgV e,ptW v] (DB (eX e v)):=by
 refine zsp Tryz.func253 ?_;obtain⟨ha,hb⟩:=jP.1 he
 have hr:eX e v↔Bb e v/\kR e.1 e.2 v=0:=by
  rw[gZ he];constructor
  ·rintro⟨h1,h2⟩
   refine⟨h1,?_⟩;rw[zH ha hb hv,h2];rfl
  ·rintro⟨h1,h2⟩
   refine⟨h1,?_⟩;by_cases q:X (dif e.2 e.1) (dif v e.1)=0
   ·exact q
   ·rw[zH ha hb hv]at h2
    exact absurd h2 (tC.2 q)
 unfold Bb at hr;have h2:=fO8 e.1 e.2 v ha hb hv;unfold Sm4 at ha hb hv;generalize eX e v=P at*;generalize kR e.1 e.2 v=t at*
 repeat' ((conv=>whnf);first|refine eH4 (by simp only[lH,mG];omega) ?_|refine zc h2 ?_|refine zS ?_|refine zT ?_ ?_<;>intro _|fail)
 all_goals conv=>whnf
 all_goals refine aA ?_
 all_goals (try simp only[lH,mG,Int.mul_one]at*)
 all_goals first
  |(refine sK ?_;rw[hr];exact⟨fun h=>⟨⟨Aa,Aa,Aa,Aa⟩,h⟩,fun h=>h.2⟩)
  |(refine aC (fun h=>?_);have h':=(hr.1 h).1;omega)
theorem fQ0(n:Int)(hn: -1000000<=n/\n<=1000000):Sp 274 [I n] (I (n.natAbs:Int)):=by
 refine zsp Tryz.func274 ?_
 repeat' ((conv=>whnf);first|refine zS ?_|refine zT ?_ ?_<;>intro _|fail)
 all_goals conv=>whnf
 all_goals refine aG ?_
 all_goals omega
theorem fI5(a b:Int):Sp 273 [I a,I b] (I (gcdI a b)):=by
 refine zsp Tryz.func273 ?_
 repeat' ((conv=>whnf);first|refine zS ?_|fail)
 refine aU (A:=Int) (B:=Int) (fun x y=>mkSt [(0,I x),(1,I y)] [] []) (fun x y=>gcdI x y=gcdI a b) (fun x y=>y.natAbs) a b ?_ rfl (fun x y hp=>?_)
 ·exact zj
 have hp:gcdI x y=gcdI a b:=hp;by_cases h0:y=0
 ·subst h0
  have e:gcdI x 0=x:=by rw[gcdI];simp
  rw[<-hp,e]
  repeat' ((conv=>whnf);first|(exfalso;omega)|refine zS ?_|refine zT ?_ ?_<;>intro _|fail)
  all_goals exact zE
 ·exact Ic
theorem gG8(g:Int):gcdI g 1=1:=by
 rw[gcdI,dif_neg Aj,gcdI,dif_pos (by rw[Int.tmod_one])]
theorem fS2(v:Vc)(hv:Sm4 v):Sp 252 [ptW v] (.lit (.bool true)):=by
 refine zsp Tryz.func252 ?_;have h1:=fQ0 v.1 (by unfold Sm4 at hv;omega)
 have h2:=fQ0 v.2 (by unfold Sm4 at hv;omega)
 have h3:=fI5 (v.1.natAbs:Int) (v.2.natAbs:Int);have h4:=fI5 (gcdI (v.1.natAbs:Int) (v.2.natAbs:Int)) 1
 rw[gG8]at h4;generalize gcdI (v.1.natAbs:Int) (v.2.natAbs:Int)=g at*;unfold Sm4 at hv
 repeat' ((conv=>whnf);first|(exfalso;omega)|refine zc h1 ?_|refine zc h2 ?_|refine zc h3 ?_|refine zc h4 ?_|refine zS ?_|refine zT ?_ ?_<;>intro _|fail)
 all_goals conv=>whnf
 exact aK (aA1.2 rfl)
theorem fQ9(p:Vc):Sp 220 [vcV p] (ptW p):=by
 refine zsp Tryz.func220 ?_;exact LD
theorem fJ9{e:Sg}{v:Vc}(he:bI e)(hv:Sm4 v)(hn:¬eX e v):rW (v.1,v.2,1) e↔rayC e v (kR e.1 e.2 v):=by
 obtain⟨ha,hb⟩:=jP.1 he;rw[dD7 hv he hn,zH ha hb hv];unfold rayC cmpI;generalize X (dif e.2 e.1) (dif v e.1)=x;split
 ·omega
 ·split<;>omega
theorem gA7{r:Rg}{v:Vc}(h:¬dM r):fJ r v=0:=by
 unfold fJ;split
 ·exact eA4 (.inl h)
 ·rfl
theorem fZ2{r:Rg}{v:Vc}(h:dM r)(hv:Sm4 v):fJ r v=lU (v.1,v.2,1) (bF r) false:=by
 rw[aC1 (pY.2 hv),aD9 h (bC7 hv)]
theorem fR7(r:Rg)(v:Vc)(hl:r.length<=1000000)(hv:Sm4 v):Sp 219 [rgV r,ptW v] (I (fJ r v)):=by
 refine zsp Tryz.func219 ?_;have g1:=fE9 r hl;have g2:=fS2 v hv
 have g3:=fE7 r hl;by_cases hr:dM r;rotate_left
 ·rw[gA7 hr]
  repeat' ((conv=>whnf);first|(exfalso;contradiction)|refine zc g1 ?_|refine zS ?_|refine zT ?_ ?_<;>intro _|fail)
  all_goals exact zE
 have h3:=hr.1;have hE2:=hr.2.1
 have hE:=fZ2 hr hv;have hne:∀e∈bF r,bI e:=fun e he=>jO hr.2.2.1 he
 have hel:=dT0 (r:=r) Aa;generalize fJ r v=A at*;generalize bF r=E at*;have hem:(E.map sgV).length=E.length:=by rw[List.length_map]
 repeat' ((conv=>whnf);first|(exfalso;contradiction)|refine zc g1 ?_|refine zc g2 ?_|refine zc g3 ?_|refine zS ?_|refine zT ?_ ?_<;>intro _|fail)
 refine oU (A:=List Sg) (B:=List Sg) (C:=Bool) (fun D R ins=>mkSt [(3, .box 3 0),(5, .sl (E.map sgV)),(6,B ins),(7,I D.length)] [(3,[I v.1,I v.2,I 1])] []) (fun D R ins=>E=D++R/\A=lU (v.1,v.2,1) R ins) (fun D R ins=>R.length) [] E false ?_ ⟨rfl,hE⟩ (fun D R ins hp=>?_)
 ·refine Le.trans (fB (k:=21) rfl (.inl rfl)) ?_
  exact zj
 clear hE;obtain⟨hp,hA⟩:=hp
 cases R with
 |nil=>
  have hlen:E.length=D.length:=Ag;rw[qB]at hA;rw[hA];cases ins
  all_goals
   repeat' ((conv=>whnf);first|(exfalso;omega)|refine zS ?_|refine zT ?_ ?_<;>intro _|fail)
  all_goals exact zE
 |cons e R=>
  have hlen:=aO hp;have heo:=hne e Ag
  obtain⟨ha,hb⟩:=jP.1 heo;have k1:=gE2 e v heo hv;have k2:=fO8 e.1 e.2 v ha hb hv
  have w1:=fun q=>oP (p:=(v.1,v.2,1)) (e:=e) (es:=R) (b:=ins) ((cC3 hv heo).2 q)
  have w2:¬eX e v->rayC e v (kR e.1 e.2 v)->A=lU (v.1,v.2,1) R (!ins):=fun q1 q2=>by
   rw[hA];exact rE (fun q=>q1 ((cC3 hv heo).1 q)) ((fJ9 heo hv q1).2 q2)
  have w3:¬eX e v->¬rayC e v (kR e.1 e.2 v)->A=lU (v.1,v.2,1) R ins:=fun q1 q2=>by
   rw[hA];exact jD (fun q=>q1 ((cC3 hv heo).1 q)) (fun q=>q2 ((fJ9 heo hv q1).1 q))
  unfold rayC at w2 w3;rw[<-hA]at w1;generalize eX e v=P at*;generalize kR e.1 e.2 v=t at*;unfold Sm4 at ha hb hv
  repeat' ((conv=>whnf);first|(exfalso;omega)|refine cC0 [(5,999),(7,999),(34,999),(35,999),(36,999),(37,999),(39,999),(40,999),(41,999),(42,999),(8,8),(9,9)] Aq Ac ?_|refine aB (l:=E) Aa ?_|refine aF (l:=E) (A:=D) (x:=e) (B:=R) hp Aa ?_|refine zc k1 ?_|refine zc k2 ?_|refine zS ?_|refine zT ?_ ?_<;>intro _|fail)
  all_goals conv=>whnf
  all_goals first
   |exact aG (w1 Af).symm
   |skip
  all_goals first
   |(have hA2:=w2 Af Aa)
   |(have hA2:=w3 Af Aa)
  all_goals first
   |refine⟨(D++[e],R, !ins),?_,⟨Ag,hA2⟩,Ae⟩
   |refine⟨(D++[e],R,ins),?_,⟨Ag,hA2⟩,Ae⟩
  all_goals simp only[List.length_append,List.length_singleton]
  all_goals (refine dV ?_ ?_ ?_ ?_)
  all_goals repeat' (first|exact trivial|refine And.intro ?_ ?_|with_reducible rfl|exact(fun h=>Ad)|exact Nat.le_refl _|omega|exact rfl)
theorem fN0(r:Rg)(v:Vc)(hl:r.length<=1000000)(hv:Sm4 v):Sp 178 [rgV r,vcV v] (I (fJ r v)):=by
 refine zsp Tryz.func178 ?_;have g1:=fP v 8000;have g2:=fQ9 v
 have g3:=fR7 r v hl hv
 have hw:within v 8000:=by
  rw[within_iff Aa];unfold Sm4 at hv;omega
 generalize fJ r v=A at*
 repeat' ((conv=>whnf);first|(exfalso;contradiction)|refine zc g1 ?_|refine zc g2 ?_|refine zc g3 ?_|refine zS ?_|refine zT ?_ ?_<;>intro _|fail)
 all_goals exact zE
def RPoint(a b:Rg):Prop:=∃x∈bF a,∃y∈bF b,dG x y≠0
theorem cA1 (a b : Bool) : eqBB a b = (a == b) := by unfold eqBB; rfl
theorem fT1{r:Rg}(hn:bR7 r):∀e∈bF r,bI e:=fun e he=>jO hn he
theorem fF2(a b:Rg)(ha:a.length<=1000000)(hb:b.length<=1000000)(hna:bR7 a)(hnb:bR7 b):Sp 135 [rgV a,rgV b] (DB (¬uV a b)):=by
 refine zsp Tryz.func135 ?_
 have hea:=fE7 a ha
 have heb:=fE7 b hb
 have oa:=fT1 hna
 have ob:=fT1 hnb
 have la:(bF a).length<=1000000:=by unfold bF;split<;>simp<;>omega
 have lb:(bF b).length<=1000000:=by unfold bF;split<;>simp<;>omega
 have hr:(¬uV a b)↔∃x∈bF a,∃y∈bF b,dG x y≠0:=by
  unfold uV
  constructor
  ·intro h
   by_cases q:∃x∈bF a,∃y∈bF b,dG x y≠0
   ·exact q
   ·exfalso
    apply h
    intro x hx y hy
    by_cases q2:dG x y=0
    ·exact q2
    ·exact absurd ⟨x,hx,y,hy,q2⟩ q
  ·rintro⟨x,hx,y,hy,q⟩ h
   exact q (h x hx y hy)
 generalize (¬uV a b)=P at*
 generalize bF a=A at*
 generalize bF b=B at*
 have hAm:(A.map sgV).length=A.length:=by simp
 have hBm:(B.map sgV).length=B.length:=by simp
 repeat' ((conv=>whnf);first|(exfalso;omega)|refine zc hea ?_|refine zc heb ?_|refine zS ?_|refine zm (fun x hx=>?_)|refine zT ?_ ?_<;>intro _|fail)
 refine aU (A:=List Sg) (B:=List Sg) (fun D R=>mkSt [(5, .sl (A.map sgV)),(6, .sl (B.map sgV)),(7,I D.length)] [] []) (fun D R=>A=D++R/\∀x∈D,∀y∈B,dG x y=0) (fun D R=>R.length) [] A ?_ ⟨rfl,by simp⟩ (fun D R hp=>?_)
 ·refine Le.trans (Le.trans (fB (k:=10) rfl (.inl rfl)) (fB (k:=12) rfl (.inl rfl))) ?_
  exact zj
 obtain⟨hp,hD⟩:=hp
 cases R with
 |nil=>
  have hlen:A.length=D.length:=by rw[hp];simp
  repeat' ((conv=>whnf);first|(exfalso;omega)|refine zS ?_|refine zm (fun x hx=>?_)|refine zT ?_ ?_<;>intro _|fail)
  all_goals conv=>whnf
  refine aA (aC ?_)
  rw[hr,hp,List.append_nil]
  rintro⟨x,hx,y,hy,hm⟩
  exact hm (hD x hx y hy)
 |cons x R=>
  have hlen:=aO hp
  have ox:=oa x (by rw[hp];simp)
  repeat' ((conv=>whnf);first|(exfalso;omega)|refine zS ?_|refine zm (fun x hx=>?_)|refine zT ?_ ?_<;>intro _|fail)
  refine aU (A:=List Sg) (B:=List Sg) (fun E S=>mkSt [(5, .sl (A.map sgV)),(6, .sl (B.map sgV)),(7,I D.length),(8,I E.length)] [] []) (fun E S=>B=E++S/\∀y∈E,dG x y=0) (fun E S=>S.length) [] B ?_ ⟨rfl,by simp⟩ (fun E S hq=>?_)
  ·exact zj
  obtain⟨hq,hE⟩:=hq
  cases S with
  |nil=>
   have hlen2:B.length=E.length:=by rw[hq];simp
   have hBE:B=E:=by rw[hq];simp
   repeat' ((conv=>whnf);first|(exfalso;omega)|refine zS ?_|refine zm (fun x hx=>?_)|refine zT ?_ ?_<;>intro _|fail)
   all_goals conv=>whnf
   refine⟨(D++[x],R),?_,⟨by rw[hp];simp,fun z hz=>?_⟩,by simp⟩
   ·simp only[List.length_append,List.length_singleton]
    exact zj
   ·rcases List.mem_append.1 hz with hz|hz
    ·exact hD z hz
    ·rw[List.mem_singleton.1 hz,hBE]
     exact hE
  |cons y S=>
   have hlen2:=aO hq
   have km:=fI7 x y ox (ob y (by rw[hq];simp))
   have hbad:dG x y≠0->P:=fun h=>hr.2 ⟨x,by rw[hp];simp,y,by rw[hq];simp,h⟩
   have hgood:dG x y=0->∀z∈E++[y],dG x z=0:=fun h z hz=>by
    rcases List.mem_append.1 hz with hz|hz
    ·exact hE z hz
    ·rw[List.mem_singleton.1 hz];exact h
   generalize dG x y=m at*
   repeat' ((conv=>whnf);first|(exfalso;omega)|refine aB (l:=A) (by omega) ?_|refine aB (l:=B) (by omega) ?_|refine aF (l:=A) (A:=D) (x:=x) (B:=R) hp (by omega) ?_|refine aF (l:=B) (A:=E) (x:=y) (B:=S) hq (by omega) ?_|refine zc km ?_|refine zS ?_|refine zm (fun x hx=>?_)|refine zT ?_ ?_<;>intro _|fail)
   all_goals conv=>whnf
   all_goals first
    |exact aA (fE (hbad (by assumption)))
    |skip
   refine⟨(E++[y],S),?_,⟨by rw[hq];simp,hgood (by assumption)⟩,by simp⟩
   simp only[List.length_append,List.length_singleton]
   exact zj
def fE4(a b:Rg):Prop:=∃v∈a,fJ b v=2
theorem dbT{p:Prop}(h:p):DB p= .lit (.bool true):=congrArg (fun b=>V.lit (.bool b)) (dH.2 h)
theorem dbF{p:Prop}(h:¬p):DB p= .lit (.bool false):=congrArg (fun b=>V.lit (.bool b)) (dW.2 h)
theorem gJ8{a b:Int}{A B:Prop}(h1:a=b->A)(h2:a≠b->B):branch (!eqBB (eqB a b) true) B A:=by
 rw[cA1]
 cases hq:eqB a b with
 |true=>exact jU (fun h=>by simp at h) (fun h=>h1 (aA1.1 hq))
 |false=>exact jU (fun h=>h2 (fun e=>by rw[aA1.2 e]at hq;cases hq)) (fun h=>by simp at h)
theorem gJ5{a b:Int}{A B:Prop}(h1:a=b->A)(h2:a≠b->B):branch (!eqBB (eqB a b) false) A B:=by
 rw[cA1]
 cases hq:eqB a b with
 |true=>exact jU (fun h=>h1 (aA1.1 hq)) (fun h=>by simp at h)
 |false=>exact jU (fun h=>by simp at h) (fun h=>h2 (fun e=>by rw[aA1.2 e]at hq;cases hq))
theorem fI2(a b:Rg)(ha:a.length<=1000000)(hb:b.length<=1000000)(hna:bR7 a):Sp 136 [rgV a,rgV b, .lit (.bool true)] (DB (pR a b 2)):=by
 refine zsp Tryz.func136 ?_
 have hll:(a.map vcV).length=a.length:=by simp
 have hr:pR a b 2↔∀v∈a,fJ b v=2:=Iff.rfl
 generalize pR a b 2=P at*
 repeat' ((conv=>whnf);first|refine zS ?_|refine zd (fun hd=>?_) (fun hd=>?_)|refine zl (fun hlt=>?_) (fun hlt=>?_)|refine zk (fun hle=>?_) (fun hle=>?_)|refine ze (fun heq=>?_) (fun heq=>?_)|refine zm (fun x hx=>?_)|refine zb (fun hbb=>?_) (fun hbb=>?_))
 refine aU (A:=List Vc) (B:=List Vc) (fun D R=>mkSt [(0,rgV a),(1,rgV b),(2, .lit (.bool true)),(7,I D.length)] [] []) (fun D R=>a=D++R/\∀v∈D,fJ b v=2) (fun D R=>R.length) [] a ?_ ⟨rfl,by simp⟩ (fun D R hp=>?_)
 ·exact zj
 obtain⟨hp,hD⟩:=hp
 cases R with
 |nil=>
  have hlen:a.length=D.length:=by rw[hp];simp
  repeat' ((conv=>whnf);first|(exfalso;omega)|refine zS ?_|refine zd (fun hd=>?_) (fun hd=>?_)|refine zl (fun hlt=>?_) (fun hlt=>?_)|refine zk (fun hle=>?_) (fun hle=>?_)|refine ze (fun heq=>?_) (fun heq=>?_)|refine zm (fun x hx=>?_)|refine zb (fun hbb=>?_) (fun hbb=>?_))
  all_goals conv=>whnf
  exact aA (fE (hr.2 fun v hv=>by rw[hp,List.append_nil]at hv;exact hD v hv))
 |cons x R=>
  have hlen:=aO hp
  have hx:x∈a:=by rw[hp];simp
  have h1:=fN0 b x hb (vN hna hx)
  have hbad:fJ b x≠2->¬P:=fun h q=>h (hr.1 q x hx)
  have hgood:fJ b x=2->∀v∈D++[x],fJ b v=2:=fun h v hv=>by
   rcases List.mem_append.1 hv with hv|hv
   ·exact hD v hv
   ·rw[List.mem_singleton.1 hv];exact h
  generalize fJ b x=w at*
  repeat' ((conv=>whnf);first|(exfalso;omega)|refine aB (l:=a) (by omega) ?_|refine aF (l:=a) (A:=D) (x:=x) (B:=R) hp (by omega) ?_|refine gJ8 (fun heq=>?_) (fun heq=>?_)|refine zc h1 ?_|refine zS ?_|refine zd (fun hd=>?_) (fun hd=>?_)|refine zl (fun hlt=>?_) (fun hlt=>?_)|refine zk (fun hle=>?_) (fun hle=>?_)|refine ze (fun heq=>?_) (fun heq=>?_)|refine zm (fun x hx=>?_)|refine zb (fun hbb=>?_) (fun hbb=>?_))
  all_goals conv=>whnf
  ·refine⟨(D++[x],R),?_,⟨by rw[hp];simp,hgood heq⟩,by simp⟩
   simp only[List.length_append,List.length_singleton]
   exact zj
  ·exact aA (aC (hbad heq))
theorem fE2(a b:Rg)(ha:a.length<=1000000)(hb:b.length<=1000000)(hna:bR7 a):Sp 136 [rgV a,rgV b, .lit (.bool false)] (DB (fE4 a b)):=by
 refine zsp Tryz.func136 ?_
 have hll:(a.map vcV).length=a.length:=by simp
 have hr:fE4 a b↔∃v∈a,fJ b v=2:=Iff.rfl
 generalize fE4 a b=P at*
 repeat' ((conv=>whnf);first|refine zS ?_|refine zd (fun hd=>?_) (fun hd=>?_)|refine zl (fun hlt=>?_) (fun hlt=>?_)|refine zk (fun hle=>?_) (fun hle=>?_)|refine ze (fun heq=>?_) (fun heq=>?_)|refine zm (fun x hx=>?_)|refine zb (fun hbb=>?_) (fun hbb=>?_))
 refine aU (A:=List Vc) (B:=List Vc) (fun D R=>mkSt [(0,rgV a),(1,rgV b),(2, .lit (.bool false)),(7,I D.length)] [] []) (fun D R=>a=D++R/\∀v∈D,fJ b v≠2) (fun D R=>R.length) [] a ?_ ⟨rfl,by simp⟩ (fun D R hp=>?_)
 ·exact zj
 obtain⟨hp,hD⟩:=hp
 cases R with
 |nil=>
  have hlen:a.length=D.length:=by rw[hp];simp
  repeat' ((conv=>whnf);first|(exfalso;omega)|refine zS ?_|refine zd (fun hd=>?_) (fun hd=>?_)|refine zl (fun hlt=>?_) (fun hlt=>?_)|refine zk (fun hle=>?_) (fun hle=>?_)|refine ze (fun heq=>?_) (fun heq=>?_)|refine zm (fun x hx=>?_)|refine zb (fun hbb=>?_) (fun hbb=>?_))
  all_goals conv=>whnf
  exact aA (aC (fun h=>by obtain⟨v,hv,q⟩:=hr.1 h;rw[hp,List.append_nil]at hv;exact hD v hv q))
 |cons x R=>
  have hlen:=aO hp
  have hx:x∈a:=by rw[hp];simp
  have h1:=fN0 b x hb (vN hna hx)
  have hbad:fJ b x=2->P:=fun h=>hr.2 ⟨x,hx,h⟩
  have hgood:fJ b x≠2->∀v∈D++[x],fJ b v≠2:=fun h v hv=>by
   rcases List.mem_append.1 hv with hv|hv
   ·exact hD v hv
   ·rw[List.mem_singleton.1 hv];exact h
  generalize fJ b x=w at*
  repeat' ((conv=>whnf);first|(exfalso;omega)|refine aB (l:=a) (by omega) ?_|refine aF (l:=a) (A:=D) (x:=x) (B:=R) hp (by omega) ?_|refine gJ5 (fun heq=>?_) (fun heq=>?_)|refine zc h1 ?_|refine zS ?_|refine zd (fun hd=>?_) (fun hd=>?_)|refine zl (fun hlt=>?_) (fun hlt=>?_)|refine zk (fun hle=>?_) (fun hle=>?_)|refine ze (fun heq=>?_) (fun heq=>?_)|refine zm (fun x hx=>?_)|refine zb (fun hbb=>?_) (fun hbb=>?_))
  all_goals conv=>whnf
  ·exact aA (fE (hbad heq))
  ·refine⟨(D++[x],R),?_,⟨by rw[hp];simp,hgood heq⟩,by simp⟩
   simp only[List.length_append,List.length_singleton]
   exact zj
def xG(h k:Rg):Prop:=uV h k/\¬fE4 h k/\¬fE4 k h
def fK3(o:Rg)(pre:List Rg)(h:Rg):Prop:=dM h/\uV h o/\pR h o 2/\∀k∈pre,xG h k
def fF4(o:Rg):List Rg->List Rg->Prop
 |_,[] =>True
 |pre,h::l=>fK3 o pre h/\fF4 o (pre++[h]) l
theorem fM6{a b:Rg}(h:Apart a b):¬fE4 a b↔pR a b 0:=by
 unfold fE4 pR
 constructor
 ·intro q v hv
  rcases cJ3 (r:=b) (v:=v)with k|k|k
  ·exact k
  ·exact absurd ((nZ h.ob (vN h.oa.2.2.1 hv)).1 k) (h.off (vert_onR h.oa hv))
  ·exact absurd ⟨v,hv,k⟩ q
 ·rintro q ⟨v,hv,k⟩
  have:=q v hv
  omega
theorem gA1{o:Rg}{pre:List Rg}{h:Rg}(ho:dM o)(hpre:∀k∈pre,dM k):fK3 o pre h↔dM h/\cU0 o pre h:=by
 unfold fK3 cU0 xG
 constructor
 ·rintro⟨h1,h2,h3,h4⟩
  refine⟨h1,h3,h2,fun k hk=>?_⟩
  obtain⟨q1,q2,q3⟩:=h4 k hk
  have ap:Apart h k:=⟨h1,hpre k hk,q1⟩
  exact⟨q1,(fM6 ap).1 q2,(fM6 ap.symm).1 q3⟩
 ·rintro⟨h1,h3,h2,h4⟩
  refine⟨h1,h2,h3,fun k hk=>?_⟩
  obtain⟨q1,q2,q3⟩:=h4 k hk
  have ap:Apart h k:=⟨h1,hpre k hk,q1⟩
  exact⟨q1,(fM6 ap).2 q2,(fM6 ap.symm).2 q3⟩
theorem fF7{o:Rg}(ho:dM o):∀ {l pre:List Rg},(∀k∈pre,dM k)->(fF4 o pre l↔(∀k∈l,dM k)/\qR o pre l)
 | [],pre,_=>⟨fun _=>⟨(fun k hk=>by cases hk),trivial⟩,fun _=>trivial⟩
 |h::l,pre,hpre=>by
  have e1:=gA1 (h:=h) ho hpre
  show fK3 o pre h/\fF4 o (pre++[h]) l↔_/\(cU0 o pre h/\qR o (pre++[h]) l)
  constructor
  ·rintro⟨h1,h2⟩
   obtain⟨k1,k2⟩:=e1.1 h1
   obtain⟨k3,k4⟩:=(fF7 ho (pre:=pre++[h]) (fun k hk=>by
    rcases List.mem_append.1 hk with hk|hk
    ·exact hpre k hk
    ·rw[List.mem_singleton.1 hk];exact k1)).1 h2
   refine⟨fun k hk=>?_,k2,k4⟩
   rcases List.mem_cons.1 hk with rfl|hk
   ·exact k1
   ·exact k3 k hk
  ·rintro⟨h1,h2,h3⟩
   have k1:=h1 h (by simp)
   refine⟨e1.2 ⟨k1,h2⟩,(fF7 ho (pre:=pre++[h]) (fun k hk=>?_)).2 ⟨fun k hk=>h1 k (by simp[hk]),h3⟩⟩
   rcases List.mem_append.1 hk with hk|hk
   ·exact hpre k hk
   ·rw[List.mem_singleton.1 hk];exact k1
theorem fM1{s:Sh}:bG s↔s.holes.length<=6/\dM s.outer/\fF4 s.outer [] s.holes/\corners (rings s)<=80:=by
 unfold bG
 constructor
 ·rintro⟨h1,h2,h3,h4⟩
  have ho:=h2 s.outer (by unfold rings;simp)
  exact⟨h1,ho,(fF7 ho (fun k hk=>by cases hk)).2 ⟨fun k hk=>h2 k (by unfold rings;simp[hk]),h4⟩,h3⟩
 ·rintro⟨h1,ho,h2,h3⟩
  obtain⟨k1,k2⟩:=(fF7 ho (fun k hk=>by cases hk)).1 h2
  refine⟨h1,fun r hr=>?_,h3,k2⟩
  rcases List.mem_cons.1 (show r∈s.outer::s.holes from hr)with rfl|hr
  ·exact ho
  ·exact k1 r hr
theorem fO1(a b:List Rg):corners (a++b)=corners a+corners b:=by unfold corners;simp
theorem fH9(r:Rg)(l:List Rg):corners (r::l)=r.length+corners l:=by unfold corners;simp
theorem fN4:∀ {l:List Rg},(∀r∈l,dM r)->corners l<=40*l.length
 | [],_=>by unfold corners;simp
 |r::l,h=>by
  have h1:=(h r (by simp)).2.1
  have h2:=fN4 (l:=l) (fun x hx=>h x (by simp[hx]))
  rw[fH9,List.length_cons];omega
theorem aD7(s:Sh)(hs:gV s):Sp 87 [shV s] (DB (bG s)):=by
 refine zsp Tryz.func87 ?_
 have hr:=fM1 (s:=s)
 have hml:(s.holes.map rgV).length=s.holes.length:=by simp
 have g1:=fE9 s.outer hs.1
 have hol:=hs.1
 have hhl:=hs.2.1
 have hcr:corners (rings s)=s.outer.length+corners s.holes:=fH9 _ _
 rw[hcr]at hr
 clear hcr
 generalize bG s=P at*
 by_cases ho:dM s.outer
 rotate_left
 ·rw[dbF ho]at g1
  repeat' ((conv=>whnf);first|(exfalso;omega)|refine zc g1 ?_|refine zS ?_|refine zm (fun x hx=>?_)|refine zT ?_ ?_<;>intro _|fail)
  all_goals conv=>whnf
  all_goals first
   |exact aA (aC (fun h=>ho (hr.1 h).2.1))
 rw[dbT ho]at g1
 repeat' ((conv=>whnf);first|(exfalso;omega)|refine zc g1 ?_|refine zS ?_|refine zm (fun x hx=>?_)|refine zT ?_ ?_<;>intro _|fail)
 all_goals conv=>whnf
 all_goals first
  |exact aA (aC (fun h=>by have:=(hr.1 h).1;omega))
  |skip
 have ho40:=ho.2.1
 have h6:s.holes.length<=6:=by omega
 refine aU (A:=List Rg) (B:=List Rg) (fun D R=>mkSt [(1, .box 1 0),(3,I ((s.outer.length+corners D:Nat):Int)),(4,I D.length)] [(1,(shV s).cells)] []) (fun D R=>s.holes=D++R/\(∀k∈D,dM k)/\(P↔fF4 s.outer D R/\s.outer.length+corners s.holes<=80)) (fun D R=>R.length) [] s.holes ?_ ⟨rfl,by simp,⟨fun h=>(hr.1 h).2.2,fun h=>hr.2 ⟨h6,ho,h⟩⟩⟩ (fun D R hp=>?_)
 ·refine dV ?_ ?_ ?_ ?_
  all_goals repeat' (first|exact trivial|refine And.intro ?_ ?_|with_reducible rfl|exact(fun h=>by cases h)|exact Nat.le_refl _|omega|exact rfl)
  all_goals (rw[List.length_map];rfl)
 clear hr
 obtain⟨hp,hD,hr⟩:=hp
 have hcD:=fN4 hD
 cases R with
 |nil=>
  have hlen:s.holes.length=D.length:=by rw[hp];simp
  have e:s.holes=D:=by rw[hp];simp
  have hr2:P↔s.outer.length+corners D<=80:=by rw[hr,e];exact⟨fun h=>h.2,fun h=>⟨trivial,h⟩⟩
  repeat' ((conv=>whnf);first|(exfalso;omega)|refine zS ?_|refine zm (fun x hx=>?_)|refine zT ?_ ?_<;>intro _|fail)
  all_goals conv=>whnf
  exact aA (le_dec (by rw[hr2];omega))
 |cons h R=>
  have hlen:=aO hp
  have hhm:h∈s.holes:=by rw[hp];simp
  have hh1:=hs.2.2 h hhm
  have hhm2:(h.map vcV).length=h.length:=by simp
  have hcs:corners (D++[h])=corners D+h.length:=by rw[fO1];unfold corners;simp
  have gv:=fE9 h hh1
  have hr':P↔(fK3 s.outer D h/\fF4 s.outer (D++[h]) R)/\s.outer.length+corners s.holes<=80:=hr
  by_cases hok:dM h
  rotate_left
  ·rw[dbF hok]at gv
   repeat' ((conv=>whnf);first|(exfalso;omega)|refine aB (l:=s.holes) (by omega) ?_|refine aF (l:=s.holes) (A:=D) (x:=h) (B:=R) hp (by omega) ?_|refine zc gv ?_|refine zS ?_|refine zm (fun x hx=>?_)|refine zT ?_ ?_<;>intro _|fail)
   all_goals conv=>whnf
   all_goals exact aA (aC (fun q=>hok (hr'.1 q).1.1.1))
  rw[dbT hok]at gv
  have h40:=hok.2.1
  have gm:=fF2 h s.outer hh1 hol hok.2.2.1 ho.2.2.1
  have gi:=fI2 h s.outer hh1 hol hok.2.2.1
  by_cases hap:uV h s.outer
  rotate_left
  ·rw[dbT hap]at gm
   repeat' ((conv=>whnf);first|(exfalso;omega)|refine aB (l:=s.holes) (by omega) ?_|refine aF (l:=s.holes) (A:=D) (x:=h) (B:=R) hp (by omega) ?_|refine zc gv ?_|refine zc gm ?_|refine zS ?_|refine zm (fun x hx=>?_)|refine zT ?_ ?_<;>intro _|fail)
   all_goals conv=>whnf
   all_goals exact aA (aC (fun q=>hap (hr'.1 q).1.1.2.1))
  rw[dbF (fun q=>q hap)]at gm
  by_cases hin:pR h s.outer 2
  rotate_left
  ·rw[dbF hin]at gi
   repeat' ((conv=>whnf);first|(exfalso;omega)|refine aB (l:=s.holes) (by omega) ?_|refine aF (l:=s.holes) (A:=D) (x:=h) (B:=R) hp (by omega) ?_|refine zc gv ?_|refine zc gm ?_|refine zc gi ?_|refine zS ?_|refine zm (fun x hx=>?_)|refine zT ?_ ?_<;>intro _|fail)
   all_goals conv=>whnf
   all_goals exact aA (aC (fun q=>hin (hr'.1 q).1.1.2.2.1))
  rw[dbT hin]at gi
  repeat' ((conv=>whnf);first|(exfalso;omega)|refine aB (l:=s.holes) (by omega) ?_|refine aF (l:=s.holes) (A:=D) (x:=h) (B:=R) hp (by omega) ?_|refine zc gv ?_|refine zc gm ?_|refine zc gi ?_|refine zS ?_|refine zm (fun x hx=>?_)|refine zT ?_ ?_<;>intro _|fail)
  refine aU (A:=List Rg) (B:=List Rg) (fun E S=>mkSt [(1, .box 1 0),(3,I ((s.outer.length+corners (D++[h]):Nat):Int)),(4,I D.length),(5,rgV h),(6,I E.length)] [(1,(shV s).cells)] []) (fun E S=>D=E++S/\∀k∈E,xG h k) (fun E S=>S.length) [] D ?_ ⟨rfl,by simp⟩ (fun E S hq=>?_)
  ·have e:((s.outer.length+corners (D++[h]):Nat):Int)=((s.outer.length+corners D:Nat):Int)+((h.map vcV).length:Int):=by rw[hcs,List.length_map];omega
   rw[e]
   exact zj
  obtain⟨hq,hE⟩:=hq
  cases S with
  |nil=>
   have hlen2:D.length=E.length:=by rw[hq];simp
   have hDE:D=E:=by rw[hq];simp
   have hpairs:∀k∈D,xG h k:=by rw[hDE];exact hE
   clear hq
   repeat' ((conv=>whnf);first|(exfalso;omega)|refine zS ?_|refine zm (fun x hx=>?_)|refine zT ?_ ?_<;>intro _|fail)
   all_goals conv=>whnf
   refine⟨(D++[h],R),?_,⟨by rw[hp];simp,fun k hk=>?_,⟨fun q=>⟨(hr'.1 q).1.2,(hr'.1 q).2⟩,fun q=>hr'.2 ⟨⟨⟨hok,hap,hin,hpairs⟩,q.1⟩,q.2⟩⟩⟩,by simp⟩
   ·simp only[List.length_append,List.length_singleton]
    exact zj
   ·rcases List.mem_append.1 hk with hk|hk
    ·exact hD k hk
    ·rw[List.mem_singleton.1 hk];exact hok
  |cons k S=>
   have hlen2:=aO hq
   have hkD:k∈D:=by rw[hq];simp
   have hkok:=hD k hkD
   have hk1:k.length<=1000000:=by have:=hkok.2.1;omega
   have hp2:s.holes=E++k::(S++h::R):=by rw[hp,hq];simp
   have q1:=fF2 h k hh1 hk1 hok.2.2.1 hkok.2.2.1
   have q2:=fE2 h k hh1 hk1 hok.2.2.1
   have q3:=fE2 k h hk1 hh1 hkok.2.2.1
   have hpr:xG h k↔uV h k/\¬fE4 h k/\¬fE4 k h:=Iff.rfl
   have hbad:¬xG h k->¬P:=fun n q=>n ((hr'.1 q).1.1.2.2.2 k hkD)
   have hgood:xG h k->∀z∈E++[k],xG h z:=fun n z hz=>by
    rcases List.mem_append.1 hz with hz|hz
    ·exact hE z hz
    ·rw[List.mem_singleton.1 hz];exact n
   generalize xG h k=pr at*
   generalize uV h k=c1 at*
   generalize fE4 h k=c2 at*
   generalize fE4 k h=c3 at*
   repeat' ((conv=>whnf);first|(exfalso;omega)|refine aB (l:=s.holes) (by omega) ?_|refine aF (l:=s.holes) (A:=E) (x:=k) (B:=S++h::R) hp2 (by omega) ?_|refine zc q1 ?_|refine zc q2 ?_|refine zc q3 ?_|refine zS ?_|refine zm (fun x hx=>?_)|refine zT ?_ ?_<;>intro _|fail)
   all_goals conv=>whnf
   all_goals first
    |exact aA (aC (hbad (fun n=>absurd (hpr.1 n).1 (by assumption))))
    |exact aA (aC (hbad (fun n=>absurd (by assumption) (hpr.1 n).2.1)))
    |exact aA (aC (hbad (fun n=>absurd (by assumption) (hpr.1 n).2.2)))
    |skip
   have hc1:c1:=by
    by_cases c:c1
    ·exact c
    ·exact absurd c (by assumption)
   refine⟨(E++[k],S),?_,⟨by rw[hq];simp,hgood (hpr.2 ⟨hc1,by assumption,by assumption⟩)⟩,by simp⟩
   simp only[List.length_append,List.length_singleton]
   exact zj
theorem gI8(r:Rg):W (zY r)=zY r:=by
 unfold zY
 cases r.length with
 |zero=>rfl
 |succ n=>rw[bC2];exact w_in (nT _)
theorem wsub(a b:Int):W (W a-b)=W (a-b):=by
 have e:∃k:Int,W a=a+k*18446744073709551616:=by
  refine⟨(W a-a)/18446744073709551616,?_⟩
  simp[IntKind.wrap,IntKind.signed,IntKind.bits]
  split<;>omega
 obtain⟨k,hk⟩:=e
 rw[hk]
 simp[IntKind.wrap,IntKind.signed,IntKind.bits]
 split<;>split<;>omega
theorem fV7{s:Sh}(h:bG s):uK s=s.holes.foldl (fun a r=>W (a-zY r)) (zY s.outer):=by
 have ho:dM s.outer:=h.2.1 _ (by unfold rings;simp)
 have hh:∀r∈s.holes,dM r:=fun r hr=>h.2.1 r (by unfold rings;simp[hr])
 have e1:∀ {r:Rg},dM r->nG r=zY r:=fun q=>if_pos q
 rw[eI3 h]
 unfold rings qH
 rw[List.foldl_cons,e1 ho,wsub,show 2*zY s.outer-zY s.outer=zY s.outer by omega,gI8]
 generalize zY s.outer=a
 have key:∀(l:List Rg) (a:Int),(∀r∈l,dM r)->l.foldl (fun a r=>W (a-nG r)) a=l.foldl (fun a r=>W (a-zY r)) a:=by
  intro l
  induction l with
  |nil=>intro a _;rfl
  |cons x l ih=>
   intro a hl
   rw[List.foldl_cons,List.foldl_cons,e1 (hl x (by simp))]
   exact ih _ (fun r hr=>hl r (by simp[hr]))
 exact key _ _ hh
theorem fK5(s:Sh)(hs:gV s):Sp 53 [shV s] (I (uK s)):=by
 refine zsp Tryz.func53 ?_
 have hml:(s.holes.map rgV).length=s.holes.length:=by simp
 have g0:=aD7 s hs
 have g1:=fG8 s.outer hs.1
 have hhl:=hs.2.1
 by_cases h:bG s
 rotate_left
 ·rw[dbF h]at g0
  rw[eC2 h]
  repeat' ((conv=>whnf);first|refine zc g0 ?_|refine zS ?_|refine zm (fun x hx=>?_)|refine zT ?_ ?_<;>intro _|fail)
  all_goals exact zE
 rw[dbT h]at g0
 rw[fV7 h]
 have hst:∀D x,(D++[x]).foldl (fun a r=>W (a-zY r)) (zY s.outer)=W (D.foldl (fun a r=>W (a-zY r)) (zY s.outer)-zY x):=fun D x=>by rw[List.foldl_append];rfl
 generalize zY s.outer=a0 at*
 repeat' ((conv=>whnf);first|refine zc g0 ?_|refine zc g1 ?_|refine zg ?_|refine zi ?_|refine zw ?_|refine zy ?_|refine zo ?_|refine zn ?_|refine zm (fun x hx=>?_)|refine zv ?_|refine zz (fun _=>?_) fun _=>?_|refine zb (fun _=>?_) fun _=>?_|refine zr ?_|refine zq ?_)
 refine aU (A:=List Rg) (B:=List Rg) (fun D R=>mkSt [(1, .box 1 0),(3,I (D.foldl (fun a r=>W (a-zY r)) a0)),(4,I D.length)] [(1,(shV s).cells)] []) (fun D R=>s.holes=D++R) (fun D R=>R.length) [] s.holes ?_ rfl (fun D R hp=>?_)
 ·exact zj
 cases R with
 |nil=>
  have hlen:s.holes.length=D.length:=by rw[show s.holes=D++[]from hp];simp
  have e:s.holes=D:=by rw[show s.holes=D++[]from hp];simp
  rw[e]
  generalize D.foldl (fun a r=>W (a-zY r)) a0=A at*
  repeat' ((conv=>whnf);first|(exfalso;omega)|refine zS ?_|refine zm (fun x hx=>?_)|refine zT ?_ ?_<;>intro _|fail)
  all_goals exact zE
 |cons x R=>
  have hlen:=aO hp
  have gx:=fG8 x (hs.2.2 x (by rw[hp];simp))
  have e:=hst D x
  generalize zY x=ax at*
  generalize hA:D.foldl (fun a r=>W (a-zY r)) a0=A at*
  repeat' ((conv=>whnf);first|(exfalso;omega)|refine aB (l:=s.holes) (by omega) ?_|refine aF (l:=s.holes) (A:=D) (x:=x) (B:=R) hp (by omega) ?_|refine fK (m:=(D.length:Int)+1) (w_in (by omega)) ?_|refine zc gx ?_|refine zg ?_|refine zi ?_|refine zw ?_|refine zy ?_|refine zo ?_|refine zn ?_|refine zm (fun x hx=>?_)|refine zv ?_|refine zz (fun _=>?_) fun _=>?_|refine zb (fun _=>?_) fun _=>?_|refine zr ?_|refine zq ?_)
  all_goals conv=>whnf
  refine⟨(D++[x],R),?_,by rw[hp];simp,by simp⟩
  simp only[e,List.length_append,List.length_singleton]
  exact zj
def Fits(s:Sh):Prop:=s.outer.length<=9223372036854775807/\s.holes.length<=1000000/\∀h∈s.holes,h.length<=9223372036854775807
theorem Fits.mem{s:Sh}(h:Fits s){r:Rg}(hr:r∈rings s):r.length<=9223372036854775807:=by
 exact Nk
theorem cA2(r:Rg)(hl:r.length<=9223372036854775807):Sp 129 [rgV r] (DB (dM r)):=by
 by_cases h:r.length<=1000000
 ·exact lN r h
 ·have e:DB (dM r)= .lit (.bool false):=congrArg (fun b=>V.lit (.bool b)) (dW.2 (fun q=>by have:=q.2.1;omega))
  rw[e];refine zsp Tryz.func129 ?_;have hll:(r.map vcV).length=r.length:=Ae;exact KF
theorem wQ(s:Sh)(hs:Fits s):Sp 84 [shV s] (DB (bG s)):=by
 refine zsp Tryz.func84 ?_;have hmm:(s.holes.map rgV).length=s.holes.length:=Ae;generalize hP:bG s=P;have hr:P↔bG s:=G6
 unfold bG at hr
 repeat' ((conv=>whnf);first|(exfalso;omega)|refine zc (rQ s) ?_|refine zS ?_|refine zm (fun x hx=>?_)|refine zT ?_ ?_<;>intro _|fail)
 all_goals conv=>whnf
 all_goals first
  |(refine aA (aC ?_);rw[hr];intro h;obtain⟨h1,h2,h3,h4⟩:=h;first|omega|contradiction)
  |skip
 have h6:s.holes.length<=6:=Aa
 refine aM3 (iI s) (vJ s Aa) (vC s) (A:=List Rg) (B:=List Rg) (fun D R=>mkSt [(1, .box 1 0),(2, .box 2 0),(3, .box 3 0),(14, .fn 133 [.fp (shV s).cells])] [(1,(shV s).cells),(2,[.lit (.bool false)]),(3,[I (corners D)])] [])
  (fun k D R=>rings s=D++R/\D.length=k/\∀r∈D,dM r) [] (rings s) ?_ ⟨rfl,rfl,Ae⟩ rfl ?_ ?_
 ·exact zj
 ·rintro k D R it ⟨hp,hk,hD⟩ hit
  subst hk;obtain⟨r,R',rfl,rfl⟩:=aE4 hp hit;have hlen:=aO hp;have hlr:(rings s).length=s.holes.length+1:=AO
  have hrl:r.length<=9223372036854775807:=hs.mem Ag;have hc:=zF9 hD
  have hll:(r.map vcV).length=r.length:=Ae;have ec:((corners (D++[r]):Nat):Int)=(corners D:Int)+((r.map vcV).length:Nat):=by rw[aN4,hll];simp
  have hf:=cA2 r hrl;rcases Nat.lt_or_ge 40 r.length with hbig|hsm
  ·have hno:¬dM r:=fun h=>by have:=h.2.1;omega
   repeat' ((conv=>whnf);first|(exfalso;omega)|(exfalso;contradiction)|refine zS ?_|refine zm (fun x hx=>?_)|refine zT ?_ ?_<;>intro _|fail)
   all_goals conv=>whnf
   refine aA (aC ?_);rw[hr];intro h;exact absurd (h.2.1 r Ag) Af
  ·repeat' ((conv=>whnf);first|(exfalso;omega)|refine zS ?_|refine zm (fun x hx=>?_)|refine zT ?_ ?_<;>intro _|fail)
   all_goals conv=>whnf
   ·exact I9
   ·refine aA (aC ?_)
    rw[hr];intro h;exact absurd (h.2.1 r Ag) Af
 ·rintro D R ⟨hp,hk,hD⟩
  have hRn:R=[] :=Hg;subst hRn;rw[List.append_nil]at hp;subst hp;clear hk;have hlr:(rings s).length=s.holes.length+1:=AO
  have hc:=zF9 hD
  repeat' ((conv=>whnf);first|(exfalso;omega)|refine zS ?_|refine zm (fun x hx=>?_)|refine zT ?_ ?_<;>intro _|fail)
  all_goals conv=>whnf
  all_goals first
   |(refine aA (aC ?_);rw[hr];intro h;obtain⟨h1,h2,h3,h4⟩:=h;first|omega|contradiction)
   |skip
  have h40:∀r∈rings s,r.length<=40:=fun r hr=>(hD r hr).2.1;have hsz:gV s:=⟨DT,Aa,fun r hr=>Ed⟩
  clear h40;have h80:corners (rings s)<=80:=Aa;have hr2:P↔qR s.outer [] s.holes:=hr.trans ⟨fun h=>h.2.2.2,fun h=>⟨h6,hD,h80,h⟩⟩
  refine aU (A:=List Rg) (B:=List Rg) (fun D R=>mkSt [(1, .box 1 0),(2, .box 2 0),(26, .sl (s.holes.map rgV)),(27,I s.holes.length),(28,I D.length)] [(1,(shV s).cells),(2,[.lit (.bool false)])] []) (fun D R=>s.holes=D++R/\(P↔qR s.outer D R)) (fun D R=>R.length) [] s.holes ?_ ⟨rfl,hr2⟩ (fun D R hp=>?_)
  ·exact GK
  obtain⟨hp,hP2⟩:=hp
  cases R with
  |nil=>
   have hlen:s.holes.length=D.length:=Ag
   repeat' ((conv=>whnf);first|(exfalso;omega)|refine zS ?_|refine zm (fun x hx=>?_)|refine zT ?_ ?_<;>intro _|fail)
   all_goals conv=>whnf
   exact aA (fE (hP2.2 trivial))
  |cons h R=>
   have hlen:=aO hp;have hhl:h.length<=1000000:=hsz.2.2 h Ag
   rw[qR]at hP2;unfold cU0 at hP2;have htk:((s.holes.map rgV).take ((D.length:Nat):Int).toNat)=D.map rgV:=by rw[Int.toNat_natCast,hp];simp
   repeat' ((conv=>whnf);first|(exfalso;omega)|refine zc (tX h s.outer 2 hhl hsz.1) ?_|refine zc (vS h s.outer hhl hsz.1) ?_|refine fU ⟨Aa,Aa,Aa, .inl rfl⟩ ?_|refine zS ?_|refine zm (fun x hx=>?_)|refine zT ?_ ?_<;>intro _|fail)
   all_goals conv=>whnf
   all_goals first
    |(refine aA (aC ?_);rw[hP2];intro h;obtain⟨⟨h1,h2,h3⟩,h4⟩:=h;contradiction)
    |skip
   refine aU (A:=List Rg) (B:=List Rg) (fun E S=>mkSt [(1, .box 1 0),(2, .box 2 0),(6,rgV h),(26, .sl (s.holes.map rgV)),(27,I s.holes.length),(28,I D.length),(48, .sl (List.drop (Int.toNat 0) (List.take ((D.length:Nat):Int).toNat (List.map rgV s.holes)))),(49,I (List.drop (Int.toNat 0) (List.take ((D.length:Nat):Int).toNat (List.map rgV s.holes))).length),(50,I E.length)] [(1,(shV s).cells),(2,[.lit (.bool false)])] []) (fun E S=>D=E++S/\∀k∈E,uV h k/\pR h k 0/\pR k h 0) (fun E S=>S.length) [] D ?_ ⟨rfl,Ae⟩ (fun E S hq=>?_)
   ·exact zj
   obtain⟨hq,hE⟩:=hq;have hX:(List.drop (Int.toNat 0) (List.take ((D.length:Nat):Int).toNat (List.map rgV s.holes)))=D.map rgV:=htk;have hXl:(List.drop (Int.toNat 0) (List.take ((D.length:Nat):Int).toNat (List.map rgV s.holes))).length=D.length:=by rw[hX,List.length_map]
   cases S with
   |nil=>
    have hlen2:D.length=E.length:=Au;have hDE:D=E:=Au
    repeat' ((conv=>whnf);first|(exfalso;omega)|refine zS ?_|refine zm (fun x hx=>?_)|refine zT ?_ ?_<;>intro _|fail)
    all_goals conv=>whnf
    exact LM
   |cons k S=>
    have hlen2:=aO hq;have hkl:k.length<=1000000:=hsz.2.2 k FU
    repeat' ((conv=>whnf);first|(exfalso;omega)|refine idx_eq (l:=D) (A:=E) (x:=k) (B:=S) hX hq Aa ?_|refine zc (vS h k hhl hkl) ?_|refine zc (tX h k 0 hhl hkl) ?_|refine zc (tX k h 0 hkl hhl) ?_|refine zS ?_|refine zm (fun x hx=>?_)|refine zT ?_ ?_<;>intro _|fail)
    all_goals conv=>whnf
    all_goals first
     |(refine aA (aC ?_);rw[hP2];intro q;have q1:=q.1.2.2 k Au;obtain⟨q2,q3,q4⟩:=q1;contradiction)
     |skip
    exact Nb
theorem fK6(r:Rg)(hl:r.length<=9223372036854775807):Sp 134 [rgV r] (DB (dM r)):=by
 by_cases h:r.length<=1000000
 ·exact fE9 r h
 ·have e:DB (dM r)= .lit (.bool false):=dbF (fun q=>by have:=q.2.1;omega)
  rw[e]
  refine zsp Tryz.func134 ?_
  have hll:(r.map vcV).length=r.length:=by simp
  repeat' ((conv=>whnf);first
   |(exfalso;omega)
   |refine eY7 ?_
   |refine eZ1 (by kernel_rfl) ?_
   |refine eH4 (by omega) ?_
   |refine bW7 ?_
   |refine fU (p:=(T.row _).eq=true) (by kernel_rfl) ?_
   |refine fU (by omega) ?_
   |refine fU rfl ?_
   |refine eZ2 ?_
   |refine eZ0 (fun hd=>?_) (fun hd=>?_)
   |refine br_lt (fun hlt=>?_) (fun hlt=>?_)
   |refine br_le (fun hle=>?_) (fun hle=>?_)
   |refine eV7 (fun heq=>?_) (fun heq=>?_)
   |refine eQ9 (by omega) (fun x hx=>?_)
   |refine eY0 rfl (fun h=>by cases h) ?_
   |refine jU (fun hbb=>?_) (fun hbb=>?_)
   |refine ret_i ?_
   |refine fA7 ?_)
  all_goals conv=>whnf
  all_goals first
   |exact aG rfl
   |exact aK rfl
   |exact aP rfl
   |(refine⟨?_,rfl,fun rs h=>V.noConfusion h⟩;(repeat' (first|exact trivial|refine And.intro ?_ ?_|with_reducible rfl|exact(fun h=>by cases h)|exact rfl));done)
   |(refine⟨_,rfl,?_⟩;(repeat' (first|exact trivial|refine And.intro ?_ ?_|with_reducible rfl|exact(fun h=>by cases h)|exact rfl));done)
theorem r12validF_vc(s:Sh)(hs:Fits s):fnVC T Tryz.prog Tryz.f87 [shV s] (DB (bG s)):=by
 have hr:=fM1 (s:=s)
 have hml:(s.holes.map rgV).length=s.holes.length:=by simp
 have g1:=fK6 s.outer hs.1
 have hhl:=hs.2.1
 have hcr:corners (rings s)=s.outer.length+corners s.holes:=fH9 _ _
 rw[hcr]at hr
 clear hcr
 generalize bG s=P at*
 by_cases ho:dM s.outer
 rotate_left
 ·rw[dbF ho]at g1
  repeat' ((conv=>whnf);first
   |(exfalso;omega)
   |(refine aS5 (g1) false ?_ rfl ?_;focus ((repeat' (first|exact trivial|refine And.intro ?_ ?_|with_reducible rfl|exact(fun h=>by cases h)|exact rfl));done))
   |refine eY7 ?_
   |refine eZ1 (by kernel_rfl) ?_
   |refine eH4 (by omega) ?_
   |refine bW7 ?_
   |refine fU (p:=(T.row _).eq=true) (by kernel_rfl) ?_
   |refine fU (by omega) ?_
   |refine fU rfl ?_
   |refine eZ2 ?_
   |refine eZ0 (fun hd=>?_) (fun hd=>?_)
   |refine br_lt (fun hlt=>?_) (fun hlt=>?_)
   |refine br_le (fun hle=>?_) (fun hle=>?_)
   |refine eV7 (fun heq=>?_) (fun heq=>?_)
   |refine eQ9 (by omega) (fun x hx=>?_)
   |refine eY0 rfl (fun h=>by cases h) ?_
   |refine jU (fun hbb=>?_) (fun hbb=>?_)
   |refine ret_i ?_
   |refine fA7 ?_)
  all_goals conv=>whnf
  all_goals first
   |exact aA (aC (fun h=>ho (hr.1 h).2.1))
 rw[dbT ho]at g1
 repeat' ((conv=>whnf);first
  |(exfalso;omega)
  |(refine aS5 (g1) false ?_ rfl ?_;focus ((repeat' (first|exact trivial|refine And.intro ?_ ?_|with_reducible rfl|exact(fun h=>by cases h)|exact rfl));done))
  |refine eY7 ?_
  |refine eZ1 (by kernel_rfl) ?_
  |refine eH4 (by omega) ?_
  |refine bW7 ?_
  |refine fU (p:=(T.row _).eq=true) (by kernel_rfl) ?_
  |refine fU (by omega) ?_
  |refine fU rfl ?_
  |refine eZ2 ?_
  |refine eZ0 (fun hd=>?_) (fun hd=>?_)
  |refine br_lt (fun hlt=>?_) (fun hlt=>?_)
  |refine br_le (fun hle=>?_) (fun hle=>?_)
  |refine eV7 (fun heq=>?_) (fun heq=>?_)
  |refine eQ9 (by omega) (fun x hx=>?_)
  |refine eY0 rfl (fun h=>by cases h) ?_
  |refine jU (fun hbb=>?_) (fun hbb=>?_)
  |refine ret_i ?_
  |refine fA7 ?_)
 all_goals conv=>whnf
 all_goals first
  |exact aA (aC (fun h=>by have:=(hr.1 h).1;omega))
  |skip
 have ho40:=ho.2.1
 have hol:s.outer.length<=1000000:=by omega
 have h6:s.holes.length<=6:=by omega
 refine aU (A:=List Rg) (B:=List Rg) (fun D R=>mkSt [(1, .box 1 0),(3,I ((s.outer.length+corners D:Nat):Int)),(4,I D.length)] [(1,(shV s).cells)] []) (fun D R=>s.holes=D++R/\(∀k∈D,dM k)/\(P↔fF4 s.outer D R/\s.outer.length+corners s.holes<=80)) (fun D R=>R.length) [] s.holes ?_ ⟨rfl,by simp,⟨fun h=>(hr.1 h).2.2,fun h=>hr.2 ⟨h6,ho,h⟩⟩⟩ (fun D R hp=>?_)
 ·refine dV ?_ ?_ ?_ ?_
  all_goals repeat' (first|exact trivial|refine And.intro ?_ ?_|with_reducible rfl|exact(fun h=>by cases h)|exact Nat.le_refl _|omega|exact rfl)
  all_goals (rw[List.length_map];rfl)
 clear hr
 obtain⟨hp,hD,hr⟩:=hp
 have hcD:=fN4 hD
 cases R with
 |nil=>
  have hlen:s.holes.length=D.length:=by rw[hp];simp
  have e:s.holes=D:=by rw[hp];simp
  have hr2:P↔s.outer.length+corners D<=80:=by rw[hr,e];exact⟨fun h=>h.2,fun h=>⟨trivial,h⟩⟩
  repeat' ((conv=>whnf);first
   |(exfalso;omega)
   |refine eY7 ?_
   |refine eZ1 (by kernel_rfl) ?_
   |refine eH4 (by omega) ?_
   |refine bW7 ?_
   |refine fU (p:=(T.row _).eq=true) (by kernel_rfl) ?_
   |refine fU (by omega) ?_
   |refine fU rfl ?_
   |refine eZ2 ?_
   |refine eZ0 (fun hd=>?_) (fun hd=>?_)
   |refine br_lt (fun hlt=>?_) (fun hlt=>?_)
   |refine br_le (fun hle=>?_) (fun hle=>?_)
   |refine eV7 (fun heq=>?_) (fun heq=>?_)
   |refine eQ9 (by omega) (fun x hx=>?_)
   |refine eY0 rfl (fun h=>by cases h) ?_
   |refine jU (fun hbb=>?_) (fun hbb=>?_)
   |refine ret_i ?_
   |refine fA7 ?_)
  all_goals conv=>whnf
  exact aA (le_dec (by rw[hr2];omega))
 |cons h R=>
  have hlen:=aO hp
  have hhm:h∈s.holes:=by rw[hp];simp
  have hh9:=hs.2.2 h hhm
  have hhm2:(h.map vcV).length=h.length:=by simp
  have hcs:corners (D++[h])=corners D+h.length:=by rw[fO1];unfold corners;simp
  have gv:=fK6 h hh9
  have hr':P↔(fK3 s.outer D h/\fF4 s.outer (D++[h]) R)/\s.outer.length+corners s.holes<=80:=hr
  by_cases hok:dM h
  rotate_left
  ·rw[dbF hok]at gv
   repeat' ((conv=>whnf);first
    |(exfalso;omega)
    |refine aB (l:=s.holes) (by omega) ?_
    |refine aF (l:=s.holes) (A:=D) (x:=h) (B:=R) hp (by omega) ?_
    |(refine aS5 (gv) false ?_ rfl ?_;focus ((repeat' (first|exact trivial|refine And.intro ?_ ?_|with_reducible rfl|exact(fun h=>by cases h)|exact rfl));done))
    |refine eY7 ?_
    |refine eZ1 (by kernel_rfl) ?_
    |refine eH4 (by omega) ?_
    |refine bW7 ?_
    |refine fU (p:=(T.row _).eq=true) (by kernel_rfl) ?_
    |refine fU (by omega) ?_
    |refine fU rfl ?_
    |refine eZ2 ?_
    |refine eZ0 (fun hd=>?_) (fun hd=>?_)
    |refine br_lt (fun hlt=>?_) (fun hlt=>?_)
    |refine br_le (fun hle=>?_) (fun hle=>?_)
    |refine eV7 (fun heq=>?_) (fun heq=>?_)
    |refine eQ9 (by omega) (fun x hx=>?_)
    |refine eY0 rfl (fun h=>by cases h) ?_
    |refine jU (fun hbb=>?_) (fun hbb=>?_)
    |refine ret_i ?_
    |refine fA7 ?_)
   all_goals conv=>whnf
   all_goals exact aA (aC (fun q=>hok (hr'.1 q).1.1.1))
  rw[dbT hok]at gv
  have h40:=hok.2.1
  have hh1:h.length<=1000000:=by omega
  have gm:=fF2 h s.outer hh1 hol hok.2.2.1 ho.2.2.1
  have gi:=fI2 h s.outer hh1 hol hok.2.2.1
  by_cases hap:uV h s.outer
  rotate_left
  ·rw[dbT hap]at gm
   repeat' ((conv=>whnf);first
    |(exfalso;omega)
    |refine aB (l:=s.holes) (by omega) ?_
    |refine aF (l:=s.holes) (A:=D) (x:=h) (B:=R) hp (by omega) ?_
    |(refine aS5 (gv) false ?_ rfl ?_;focus ((repeat' (first|exact trivial|refine And.intro ?_ ?_|with_reducible rfl|exact(fun h=>by cases h)|exact rfl));done))
    |(refine aS5 (gm) false ?_ rfl ?_;focus ((repeat' (first|exact trivial|refine And.intro ?_ ?_|with_reducible rfl|exact(fun h=>by cases h)|exact rfl));done))
    |refine eY7 ?_
    |refine eZ1 (by kernel_rfl) ?_
    |refine eH4 (by omega) ?_
    |refine bW7 ?_
    |refine fU (p:=(T.row _).eq=true) (by kernel_rfl) ?_
    |refine fU (by omega) ?_
    |refine fU rfl ?_
    |refine eZ2 ?_
    |refine eZ0 (fun hd=>?_) (fun hd=>?_)
    |refine br_lt (fun hlt=>?_) (fun hlt=>?_)
    |refine br_le (fun hle=>?_) (fun hle=>?_)
    |refine eV7 (fun heq=>?_) (fun heq=>?_)
    |refine eQ9 (by omega) (fun x hx=>?_)
    |refine eY0 rfl (fun h=>by cases h) ?_
    |refine jU (fun hbb=>?_) (fun hbb=>?_)
    |refine ret_i ?_
    |refine fA7 ?_)
   all_goals conv=>whnf
   all_goals exact aA (aC (fun q=>hap (hr'.1 q).1.1.2.1))
  rw[dbF (fun q=>q hap)]at gm
  by_cases hin:pR h s.outer 2
  rotate_left
  ·rw[dbF hin]at gi
   repeat' ((conv=>whnf);first
    |(exfalso;omega)
    |refine aB (l:=s.holes) (by omega) ?_
    |refine aF (l:=s.holes) (A:=D) (x:=h) (B:=R) hp (by omega) ?_
    |(refine aS5 (gv) false ?_ rfl ?_;focus ((repeat' (first|exact trivial|refine And.intro ?_ ?_|with_reducible rfl|exact(fun h=>by cases h)|exact rfl));done))
    |(refine aS5 (gm) false ?_ rfl ?_;focus ((repeat' (first|exact trivial|refine And.intro ?_ ?_|with_reducible rfl|exact(fun h=>by cases h)|exact rfl));done))
    |(refine aS5 (gi) false ?_ rfl ?_;focus ((repeat' (first|exact trivial|refine And.intro ?_ ?_|with_reducible rfl|exact(fun h=>by cases h)|exact rfl));done))
    |refine eY7 ?_
    |refine eZ1 (by kernel_rfl) ?_
    |refine eH4 (by omega) ?_
    |refine bW7 ?_
    |refine fU (p:=(T.row _).eq=true) (by kernel_rfl) ?_
    |refine fU (by omega) ?_
    |refine fU rfl ?_
    |refine eZ2 ?_
    |refine eZ0 (fun hd=>?_) (fun hd=>?_)
    |refine br_lt (fun hlt=>?_) (fun hlt=>?_)
    |refine br_le (fun hle=>?_) (fun hle=>?_)
    |refine eV7 (fun heq=>?_) (fun heq=>?_)
    |refine eQ9 (by omega) (fun x hx=>?_)
    |refine eY0 rfl (fun h=>by cases h) ?_
    |refine jU (fun hbb=>?_) (fun hbb=>?_)
    |refine ret_i ?_
    |refine fA7 ?_)
   all_goals conv=>whnf
   all_goals exact aA (aC (fun q=>hin (hr'.1 q).1.1.2.2.1))
  rw[dbT hin]at gi
  repeat' ((conv=>whnf);first
   |(exfalso;omega)
   |refine aB (l:=s.holes) (by omega) ?_
   |refine aF (l:=s.holes) (A:=D) (x:=h) (B:=R) hp (by omega) ?_
   |(refine aS5 (gv) false ?_ rfl ?_;focus ((repeat' (first|exact trivial|refine And.intro ?_ ?_|with_reducible rfl|exact(fun h=>by cases h)|exact rfl));done))
   |(refine aS5 (gm) false ?_ rfl ?_;focus ((repeat' (first|exact trivial|refine And.intro ?_ ?_|with_reducible rfl|exact(fun h=>by cases h)|exact rfl));done))
   |(refine aS5 (gi) false ?_ rfl ?_;focus ((repeat' (first|exact trivial|refine And.intro ?_ ?_|with_reducible rfl|exact(fun h=>by cases h)|exact rfl));done))
   |refine eY7 ?_
   |refine eZ1 (by kernel_rfl) ?_
   |refine eH4 (by omega) ?_
   |refine bW7 ?_
   |refine fU (p:=(T.row _).eq=true) (by kernel_rfl) ?_
   |refine fU (by omega) ?_
   |refine fU rfl ?_
   |refine eZ2 ?_
   |refine eZ0 (fun hd=>?_) (fun hd=>?_)
   |refine br_lt (fun hlt=>?_) (fun hlt=>?_)
   |refine br_le (fun hle=>?_) (fun hle=>?_)
   |refine eV7 (fun heq=>?_) (fun heq=>?_)
   |refine eQ9 (by omega) (fun x hx=>?_)
   |refine eY0 rfl (fun h=>by cases h) ?_
   |refine jU (fun hbb=>?_) (fun hbb=>?_)
   |refine ret_i ?_
   |refine fA7 ?_)
  refine aU (A:=List Rg) (B:=List Rg) (fun E S=>mkSt [(1, .box 1 0),(3,I ((s.outer.length+corners (D++[h]):Nat):Int)),(4,I D.length),(5,rgV h),(6,I E.length)] [(1,(shV s).cells)] []) (fun E S=>D=E++S/\∀k∈E,xG h k) (fun E S=>S.length) [] D ?_ ⟨rfl,by simp⟩ (fun E S hq=>?_)
  ·have e:((s.outer.length+corners (D++[h]):Nat):Int)=((s.outer.length+corners D:Nat):Int)+((h.map vcV).length:Int):=by rw[hcs,List.length_map];omega
   rw[e]
   refine dV ?_ ?_ ?_ ?_
   all_goals repeat' (first|exact trivial|refine And.intro ?_ ?_|with_reducible rfl|exact(fun h=>by cases h)|exact Nat.le_refl _|omega|exact rfl)
  obtain⟨hq,hE⟩:=hq
  cases S with
  |nil=>
   have hlen2:D.length=E.length:=by rw[hq];simp
   have hDE:D=E:=by rw[hq];simp
   have hpairs:∀k∈D,xG h k:=by rw[hDE];exact hE
   clear hq
   repeat' ((conv=>whnf);first
    |(exfalso;omega)
    |refine eY7 ?_
    |refine eZ1 (by kernel_rfl) ?_
    |refine eH4 (by omega) ?_
    |refine bW7 ?_
    |refine fU (p:=(T.row _).eq=true) (by kernel_rfl) ?_
    |refine fU (by omega) ?_
    |refine fU rfl ?_
    |refine eZ2 ?_
    |refine eZ0 (fun hd=>?_) (fun hd=>?_)
    |refine br_lt (fun hlt=>?_) (fun hlt=>?_)
    |refine br_le (fun hle=>?_) (fun hle=>?_)
    |refine eV7 (fun heq=>?_) (fun heq=>?_)
    |refine eQ9 (by omega) (fun x hx=>?_)
    |refine eY0 rfl (fun h=>by cases h) ?_
    |refine jU (fun hbb=>?_) (fun hbb=>?_)
    |refine ret_i ?_
    |refine fA7 ?_)
   all_goals conv=>whnf
   refine⟨(D++[h],R),?_,⟨by rw[hp];simp,fun k hk=>?_,⟨fun q=>⟨(hr'.1 q).1.2,(hr'.1 q).2⟩,fun q=>hr'.2 ⟨⟨⟨hok,hap,hin,hpairs⟩,q.1⟩,q.2⟩⟩⟩,by simp⟩
   ·simp only[List.length_append,List.length_singleton]
    refine dV ?_ ?_ ?_ ?_
    all_goals repeat' (first|exact trivial|refine And.intro ?_ ?_|with_reducible rfl|exact(fun h=>by cases h)|exact Nat.le_refl _|omega|exact rfl)
   ·rcases List.mem_append.1 hk with hk|hk
    ·exact hD k hk
    ·rw[List.mem_singleton.1 hk];exact hok
  |cons k S=>
   have hlen2:=aO hq
   have hkD:k∈D:=by rw[hq];simp
   have hkok:=hD k hkD
   have hk1:k.length<=1000000:=by have:=hkok.2.1;omega
   have hp2:s.holes=E++k::(S++h::R):=by rw[hp,hq];simp
   have q1:=fF2 h k hh1 hk1 hok.2.2.1 hkok.2.2.1
   have q2:=fE2 h k hh1 hk1 hok.2.2.1
   have q3:=fE2 k h hk1 hh1 hkok.2.2.1
   have hpr:xG h k↔uV h k/\¬fE4 h k/\¬fE4 k h:=Iff.rfl
   have hbad:¬xG h k->¬P:=fun n q=>n ((hr'.1 q).1.1.2.2.2 k hkD)
   have hgood:xG h k->∀z∈E++[k],xG h z:=fun n z hz=>by
    rcases List.mem_append.1 hz with hz|hz
    ·exact hE z hz
    ·rw[List.mem_singleton.1 hz];exact n
   generalize xG h k=pr at*
   generalize uV h k=c1 at*
   generalize fE4 h k=c2 at*
   generalize fE4 k h=c3 at*
   repeat' ((conv=>whnf);first
    |(exfalso;omega)
    |refine aB (l:=s.holes) (by omega) ?_
    |refine aF (l:=s.holes) (A:=E) (x:=k) (B:=S++h::R) hp2 (by omega) ?_
    |(refine aS5 (q1) false ?_ rfl ?_;focus ((repeat' (first|exact trivial|refine And.intro ?_ ?_|with_reducible rfl|exact(fun h=>by cases h)|exact rfl));done))
    |(refine aS5 (q2) false ?_ rfl ?_;focus ((repeat' (first|exact trivial|refine And.intro ?_ ?_|with_reducible rfl|exact(fun h=>by cases h)|exact rfl));done))
    |(refine aS5 (q3) false ?_ rfl ?_;focus ((repeat' (first|exact trivial|refine And.intro ?_ ?_|with_reducible rfl|exact(fun h=>by cases h)|exact rfl));done))
    |refine eY7 ?_
    |refine eZ1 (by kernel_rfl) ?_
    |refine eH4 (by omega) ?_
    |refine bW7 ?_
    |refine fU (p:=(T.row _).eq=true) (by kernel_rfl) ?_
    |refine fU (by omega) ?_
    |refine fU rfl ?_
    |refine eZ2 ?_
    |refine eZ0 (fun hd=>?_) (fun hd=>?_)
    |refine br_lt (fun hlt=>?_) (fun hlt=>?_)
    |refine br_le (fun hle=>?_) (fun hle=>?_)
    |refine eV7 (fun heq=>?_) (fun heq=>?_)
    |refine eQ9 (by omega) (fun x hx=>?_)
    |refine eY0 rfl (fun h=>by cases h) ?_
    |refine jU (fun hbb=>?_) (fun hbb=>?_)
    |refine ret_i ?_
    |refine fA7 ?_)
   all_goals conv=>whnf
   all_goals first
    |exact aA (aC (hbad (fun n=>absurd (hpr.1 n).1 (by assumption))))
    |exact aA (aC (hbad (fun n=>absurd (by assumption) (hpr.1 n).2.1)))
    |exact aA (aC (hbad (fun n=>absurd (by assumption) (hpr.1 n).2.2)))
    |skip
   have hc1:c1:=by
    by_cases c:c1
    ·exact c
    ·exact absurd c (by assumption)
   refine⟨(E++[k],S),?_,⟨by rw[hq];simp,hgood (hpr.2 ⟨hc1,by assumption,by assumption⟩)⟩,by simp⟩
   simp only[List.length_append,List.length_singleton]
   refine dV ?_ ?_ ?_ ?_
   all_goals repeat' (first|exact trivial|refine And.intro ?_ ?_|with_reducible rfl|exact(fun h=>by cases h)|exact Nat.le_refl _|omega|exact rfl)
theorem fQ3(s:Sh)(hs:Fits s):Sp 87 [shV s] (DB (bG s)):=zsp Tryz.func87 (r12validF_vc s hs)
end Go.Proofs.Led
