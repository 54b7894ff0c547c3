/-
  The reference's inventory, walked: events that are formed.
-/
import Derived.Test.YtkhhdojgbkophaaGreatQSU2
set_option linter.unusedVariables false
set_option linter.unusedSimpArgs false
set_option maxRecDepth 100000
set_option maxHeartbeats 8000000
noncomputable section
namespace Go.Proofs.Led
open Go Go.Proofs Go.Ab
theorem br_bx{x y:Bool}{A B:Prop}(h1:(x=true↔y=true)->A)(h2:¬(x=true↔y=true)->B):branch (eqBB x y) A B:=by
 rw[cA1];cases x<;>cases y
 ·exact h1 Iff.rfl
 ·exact h2 Af
 ·exact h2 Af
 ·exact h1 Iff.rfl
theorem not_t{x:Bool}:(!x)=true↔¬(x=true):=by cases x<;>simp
theorem fX8(b:Bar)(hb:Len6 b.defects):Sp 81 [barV b] (DB (yT b)):=by
 refine zsp Tryz.func81 ?_;have h1:=dK6 b bar0 hb;have e:DB (yT b)=DB (b=bar0):=congrArg DB (propext gC9)
 rw[e];generalize (b=bar0)=P at*;exact zF
theorem fL6(e:Event)(he:iY e)(hb:aA4 e.sheet):Sp 20 [aS e] (DB (iD e)):=by
 refine zsp Tryz.func20 ?_;have h1:=fR6 e.sheet hb;have h2:=fX8 e.bar (by have:=he.br;show e.bar.defects.length<=_;omega)
 have h3:=fP7 e.sheet he.sh;have h4:=fR3 e.bar (by have:=he.br;omega)
 have h5:=bD8 e.text;have hc9:=he.ct
 have hr9:=he.rs;have hl1:(e.cuts.map dK).length=e.cuts.length:=Af
 have hl2:(e.rests.map bY).length=e.rests.length:=Af
 have hr:iD e↔((e.kind=1\/e.kind=2)->e.id=0/\e.text=aI)/\(¬(e.kind=1\/e.kind=2)->pJ e.sheet/\yT e.bar)/\(e.kind≠5->e.cuts.length=0/\e.rests.length=0/\e.scrap=0)/\
  (e.kind=1->yT e.bar/\dB e.sheet)/\(e.kind=2->pJ e.sheet/\fM e.bar)/\(e.kind=3\/e.kind=7->iM e.text)/\(e.kind=4\/e.kind=6\/e.kind=8->e.text=aI)/\
  (e.kind=5->nY e)/\1<=e.kind/\e.kind<=8:=Iff.rfl
 have hf:nY e↔(∀c∈e.cuts,bU7 c)/\(∀r∈e.rests,bR4 r)/\e.cuts.length<=60/\e.rests.length<=6/\0<=e.scrap/\e.text=aI:=Iff.rfl;have hv1:dB e.sheet->¬pJ e.sheet:=fun h q=>by have:=h.1.1;have:=q.1;omega
 have hv2:fM e.bar->¬yT e.bar:=fun h q=>by have:=h.1.1;have:=q.1;omega
 have hv3:iM e.text->¬e.text=aI:=fun h q=>by have h1:=h.1;rw[q]at h1;exact absurd h1 (by decide)
 have hPm:iD e->(∀c∈e.cuts,bU7 c)/\∀r∈e.rests,bR4 r:=fun h=>by
  by_cases h5:e.kind=5
  ·have q:=(hr.1 h).2.2.2.2.2.2.2.1 h5
   exact⟨(hf.1 q).1,(hf.1 q).2.1⟩
  ·obtain⟨a,b,_⟩:=(hr.1 h).2.2.1 h5
   rw[List.length_eq_zero_iff]at a b;rw[a,b];exact⟨fun c hc=>(by cases hc),fun c hc=>(by cases hc)⟩
 generalize iD e=P at*;generalize nY e=Pc at*;generalize pJ e.sheet=n1 at*;generalize yT e.bar=n2 at*;generalize dB e.sheet=q1 at*;generalize fM e.bar=q2 at*;generalize iM e.text=q3 at*;by_cases hrg:e.kind<1\/8<e.kind
 ·have hn:¬P:=fun h=>by have:=hr.1 h;omega
  rw[dbF hn];exact zF
 have hk:e.kind=1\/e.kind=2\/e.kind=3\/e.kind=4\/e.kind=5\/e.kind=6\/e.kind=7\/e.kind=8:=Aa;clear hrg;by_cases hn1:n1;all_goals by_cases hn2:n2
 all_goals by_cases ht:e.text=aI
 all_goals first|rw[dbT hn1]at h1|rw[dbF hn1]at h1
 all_goals first|rw[dbT hn2]at h2|rw[dbF hn2]at h2
 all_goals rcases hk with hk|hk|hk|hk|hk|hk|hk|hk
 all_goals
  repeat' ((conv=>whnf);first|(exfalso;contradiction)|refine eZ1 Ak ?_|(refine br_bx (fun hq=>?_) (fun hq=>?_)<;>simp[aA1,eG4,not_t,dH,hk,ht]at hq)|(exfalso;omega)|refine zS ?_|refine zT ?_ ?_<;>intro _|fail)
 all_goals conv=>whnf
 all_goals first
  |exact aA (aC (fun h=>Ci))
  |skip
 all_goals first
  |(exfalso;exact hv3 Ag Ag)
  |skip
 all_goals
  refine aU (A:=List Made) (B:=List Made) (fun D R=>mkSt [(1, .box 1 0),(4,I D.length)] [(1,iJ e)] []) (fun D R=>e.cuts=D++R/\∀c∈D,bU7 c) (fun D R=>R.length) [] e.cuts ?_ ⟨rfl,Af⟩ (fun D R hp=>?_)
  ·exact zj
  obtain⟨hp,hD⟩:=hp
  cases R with
  |cons c R=>
   have hlen:=aO hp;have g1:=fW3 c.id
   have g2:=bD8 c.part;have hcm:c∈e.cuts:=Ac
   have hq:bU7 c↔nC c.id/\iM c.part/\1<=c.size:=Iff.rfl;have hbad:¬bU7 c->¬P:=fun h q=>h ((hPm q).1 c hcm)
   have hgood:bU7 c->∀z∈D++[c],bU7 z:=fun h z hz=>JO;generalize bU7 c=mc at*;generalize nC c.id=w1 at*;generalize iM c.part=w2 at*
   repeat' ((conv=>whnf);first|(exfalso;omega)|refine zS ?_|refine zT ?_ ?_<;>intro _|fail)
   all_goals conv=>whnf
   all_goals first
    |exact aA (aC (hbad (fun h=>absurd (hq.1 h).1 Ag)))
    |exact aA (aC (hbad (fun h=>absurd (hq.1 h).2.1 Ag)))
    |exact aA (aC (hbad (fun h=>by have:=(hq.1 h).2.2;omega)))
    |skip
   all_goals (refine⟨(D++[c],R),?_,⟨Ac,hgood (hq.2 ⟨Ag,Ag,Aa⟩)⟩,Af⟩)
   all_goals simp only[List.length_append,List.length_singleton]
   all_goals
    exact zj
  |nil=>
  have hlen:e.cuts.length=D.length:=Ac;have hA:∀c∈e.cuts,bU7 c:=fun c h=>hD c BM
  clear hD hp
  repeat' ((conv=>whnf);first|(exfalso;omega)|refine zS ?_|refine zT ?_ ?_<;>intro _|fail)
  refine aU (A:=List Rest) (B:=List Rest) (fun D R=>mkSt [(1, .box 1 0),(5,I D.length)] [(1,iJ e)] []) (fun D R=>e.rests=D++R/\∀c∈D,bR4 c) (fun D R=>R.length) [] e.rests ?_ ⟨rfl,Af⟩ (fun D R hp=>?_)
  ·exact zj
  obtain⟨hp,hD⟩:=hp
  cases R with
  |cons c R=>
   have hlen:=aO hp;have g1:=fW3 c.id
   have hcm:c∈e.rests:=Ac;have hq:bR4 c↔nC c.id/\(c.box=bx0\/(c.lo=0/\c.hi=0)):=Iff.rfl
   have hbad:¬bR4 c->¬P:=fun h q=>h ((hPm q).2 c hcm);have hgood:bR4 c->∀z∈D++[c],bR4 z:=fun h z hz=>JO
   generalize bR4 c=mc at*;generalize nC c.id=w1 at*
   repeat' ((conv=>whnf);first|(exfalso;omega)|refine cC5 ?_|refine cA4 (a:=c.box) (b:=bx0) (fun hv=>?_) (fun hv=>?_)|refine zS ?_|refine zT ?_ ?_<;>intro _|fail)
   all_goals conv=>whnf
   all_goals first
    |exact aA (aC (hbad (fun h=>absurd (hq.1 h).1 Ag)))
    |exact aA (aC (hbad (fun h=>by rcases(hq.1 h).2 with w|w;·contradiction
                                   ·omega)))
    |refine⟨(D++[c],R),?_,⟨Ac,hgood (hq.2 ⟨Ag,by first|exact .inl (by assumption)|exact .inr ⟨by omega,by omega⟩⟩)⟩,Af⟩
   all_goals simp only[List.length_append,List.length_singleton]
   all_goals
    exact zj
  |nil=>
  have hlen2:e.rests.length=D.length:=Ac;have hB:∀c∈e.rests,bR4 c:=fun c h=>hD c BM
  clear hD hp
  repeat' ((conv=>whnf);first|(exfalso;omega)|refine zS ?_|refine zT ?_ ?_<;>intro _|fail)
  all_goals conv=>whnf
  all_goals exact aA (fE (hr.2 BV))
theorem fH6{s:aJ}{e:Event}(h:iD e):appR s e=bP2 s e:=if_pos h
theorem gA3{e:Event}(h:iD e)(k1:e.kind≠1)(k2:e.kind≠2)(k5:e.kind≠5):idsR e=[] :=by
 obtain⟨a,b,_⟩:=h.2.2.1 k5;rw[List.length_eq_zero_iff]at a b;unfold idsR;rw[if_neg k1,if_neg k2];unfold fO;rw[a,b];rfl
theorem gH5{s:aJ}{e:Event}(h:iD e)(hd:¬dP s.used (idsR e)):appR s e=(inv0,7):=by
 rw[fH6 h];by_cases k1:e.kind=1
 ·have hi:idsR e=[e.sheet.id] :=if_pos k1
  rw[hi]at hd;unfold bP2 nM;rw[if_pos k1];exact TN
 by_cases k2:e.kind=2
 ·have hi:idsR e=[e.bar.id] :=(if_neg k1).trans (if_pos k2)
  rw[hi]at hd;unfold bP2 nM;rw[if_neg k1,if_pos k2];exact TN
 by_cases k5:e.kind=5
 ·have hi:idsR e=fO e:=(if_neg k1).trans (if_neg k2)
  rw[hi]at hd;unfold bP2 cutR;rw[if_neg k1,if_neg k2,if_neg Aa,if_neg Aa,if_pos k5,if_pos hd]
 ·rw[gA3 h k1 k2 k5]at hd
  exact absurd trivial hd
theorem app1{s:aJ}{e:Event}(h:iD e)(k1:e.kind=1)(hf:dP s.used (idsR e)):appR s e=(aX7 s ⟨false,e.sheet,bar0,aI⟩,0):=by
 have hi:idsR e=[e.sheet.id] :=if_pos k1;rw[hi]at hf;rw[fH6 h];unfold bP2 nM;rw[if_pos k1];exact if_neg hf.1
theorem app2{s:aJ}{e:Event}(h:iD e)(k2:e.kind=2)(hf:dP s.used (idsR e)):appR s e=(aX7 s ⟨true,dN,e.bar,aI⟩,0):=by
 have hi:idsR e=[e.bar.id] :=(if_neg Aa).trans (if_pos k2);rw[hi]at hf;rw[fH6 h];unfold bP2 nM;rw[if_neg Aa,if_pos k2];exact if_neg hf.1
theorem app3{s:aJ}{e:Event}(h:iD e)(k:e.kind=3):appR s e=relR s e:=by
 rw[fH6 h];unfold bP2;rw[if_neg Aa,if_neg Aa,if_pos k]
theorem app4{s:aJ}{e:Event}(h:iD e)(k:e.kind=4):appR s e=bP3 s e:=by
 rw[fH6 h];unfold bP2;rw[if_neg Aa,if_neg Aa,if_neg Aa,if_pos k]
theorem app8{s:aJ}{e:Event}(h:iD e)(k:e.kind=8):appR s e=bQ0 s e:=by
 rw[fH6 h];unfold bP2;rw[if_neg Aa,if_neg Aa,if_neg Aa,if_neg Aa,if_neg Aa,if_neg Aa,if_neg Aa]
theorem app6{s:aJ}{e:Event}(h:iD e)(k:e.kind=6):appR s e=nK s e.id 2 aI:=by
 rw[fH6 h];unfold bP2;rw[if_neg Aa,if_neg Aa,if_neg Aa,if_neg Aa,if_neg Aa,if_pos k]
theorem app7{s:aJ}{e:Event}(h:iD e)(k:e.kind=7):appR s e=nK s e.id 3 e.text:=by
 rw[fH6 h];unfold bP2;rw[if_neg Aa,if_neg Aa,if_neg Aa,if_neg Aa,if_neg Aa,if_neg Aa,if_pos k]
theorem gI5{s:aJ}{e:Event}{k:Nat}{m:aN}(hs:(s.used.map id).Pairwise (·<·))(hf:dP s.used (fO e))(hc:nY e)(hz: -100000000000000<=gG m)(hz2:gG m<=100000000000000)
 (hr:∀r∈e.rests,iG m r=0->0<=gG (dZ m r)/\gG (dZ m r)<=100000000000000):
 cutQ s k m e=if cZ m [] e.rests≠0 then(inv0,cZ m [] e.rests)else if nJ m e≠e.scrap then(inv0,29)else(cut5 s e k m,0):=by
 obtain⟨c1,c2,c3,c4,c5,c6⟩:=hc;unfold cutQ;by_cases h0:cZ m [] e.rests≠0
 ·rw[if_pos h0,if_pos h0]
 ·rw[if_neg h0,if_neg h0]
  have h0':=Classical.not_not.1 h0
  have hi:fG3 (gG m) (sumQ (begQ m e) m e.rests) e.cuts=0↔nJ m e=e.scrap:=by
   by_cases hz0:0<=gG m
   ·exact gE9 hz0 hz2 c5 (fun c hc=>(c1 c hc).2.2) Aa h0' (fun r hr'=>hr r hr' (fI0 m _ _ h0' r hr'))
   ·exact gH2 hz Aa c5 (fun c hc=>(c1 c hc).2.2) Aa h0' (fun r hr'=>hr r hr' (fI0 m _ _ h0' r hr'))
  by_cases hl:nJ m e=e.scrap
  ·rw[if_neg (fun q=>q (hi.2 hl)),if_neg (fun q=>q hl),gH7 hs h0' hf]
   rfl
  ·rw[if_pos (fun q=>hl (hi.1 q)),if_pos hl]
open Classical in
theorem app5{s:aJ}{e:Event}(h:iD e)(k:e.kind=5)(hs:(s.used.map id).Pairwise (·<·))(hf:dP s.used (idsR e))
 (hB:∀m∈s.stocks,-100000000000000<=gG m/\gG m<=100000000000000/\∀r∈e.rests,iG m r=0->0<=gG (dZ m r)/\gG (dZ m r)<=100000000000000):
 appR s e=aD6 s e.id fun m=>if m.program≠aI then cutQ s (bs sid s.stocks e.id) m e else(inv0,10):=by
 have hi:idsR e=fO e:=(if_neg Aa).trans (if_neg Aa);rw[hi]at hf;rw[fH6 h];unfold bP2 cutR;rw[if_neg Aa,if_neg Aa,if_neg Aa,if_neg Aa,if_pos k,if_neg (fun q=>q hf)];unfold aD6;by_cases hex:∃m∈s.stocks,sid m=e.id
 ·rw[if_pos hex,if_pos hex]
  cases hm:s.stocks[bs sid s.stocks e.id]? with
  |none=>rfl
  |some m=>
   simp only;obtain⟨b1,b2,b3⟩:=hB m (List.mem_of_getElem? hm);by_cases hp:m.program=aI
   ·rw[if_pos hp,if_neg (fun q=>q hp)]
   ·rw[if_neg hp,if_pos hp]
    exact(gI5 hs hf (h.2.2.2.2.2.2.2.1 k) b1 b2 b3).symm
 ·rw[if_neg hex,if_neg hex]
theorem bH2{l:List Event}(h:∀e∈l,more e<=21):moreL l<=21*l.length:=by
 induction l with
 |nil=>exact Nat.le_refl 0
 |cons e l ih=>
  have h1:=ih (fun x hx=>h x Bq);have h2:=h e Af
  unfold moreL at*;rw[List.map_cons,List.sum_cons,List.length_cons];omega
theorem gG5{a b:Vc}(ha:within a 2000)(hb:within b 2000): -200000000<=bZ a b/\bZ a b<=200000000:=by
 have e:W (0-2000)= -2000:=Aq;unfold within at ha hb;rw[e]at ha hb;have h1:Sm a.1:=⟨Aa,Aa⟩
 have h2:Sm a.2:=⟨Aa,Aa⟩;have h3:Sm b.1:=⟨Aa,Aa⟩
 have h4:Sm b.2:=⟨Aa,Aa⟩;have q1:=vG h1 h4
 have q2:=vG h2 h3;rw[iK h1 h2 h3 h4];omega
theorem getD_in{r:Rg}(h:bR7 r)(i:Nat):within (r.getD i z0) 2000:=by
 rw[List.getD_eq_getElem?_getD]
 cases hi:r[i]? with
 |none=>
  have e:W (0-2000)= -2000:=Aq;show within z0 2000;unfold within;rw[e];exact⟨Aq,Aq,Aq,Aq⟩
 |some v=>exact h v (List.mem_of_getElem? hi)
theorem fY5{r:Rg}(h:bR7 r):∀n:Nat,n<=40->-((n:Int)*200000000)<=cI8 r n/\cI8 r n<=(n:Int)*200000000
 |0,_=>⟨Int.le_refl _,Int.le_refl _⟩
 |n+1,hn=>by
  obtain⟨q1,q2⟩:=fY5 h n Aa;obtain⟨q3,q4⟩:=gG5 (getD_in h n) (getD_in h ((n+1)% r.length));have e:bZ (r.getD n z0) (iU r n)=bZ (r.getD n z0) (r.getD ((n+1)% r.length) z0):=rfl;rw[bC2,e];generalize bZ (r.getD n z0) (r.getD ((n+1)% r.length) z0)=c at*;generalize cI8 r n=a at*;rw[w_in Aa];omega
theorem fT0(r:Rg):0<=nG r/\nG r<=8000000000:=by
 unfold nG;split
 ·rename_i h
  obtain⟨_,h2,h3,h4,_⟩:=h;have:=fY5 h3 r.length h2;unfold zY at*;omega
 ·exact⟨Int.le_refl _,Aq⟩
theorem gJ2(l:List Rg):∀a:Int,l.length<=100->-10000000000000+(l.length:Int)*8000000000<=a->a<=10000000000000->-10000000000000<=qH a l/\qH a l<=10000000000000:=by
 induction l with
 |nil=>
  intro a hl h1 h2;have e:qH a [] =a:=rfl;rw[e];simp only[List.length_nil]at h1;omega
 |cons r l ih=>
  intro a hl h1 h2;have e:qH a (r::l)=qH (W (a-nG r)) l:=rfl;obtain⟨q1,q2⟩:=fT0 r;simp only[List.length_cons]at h1 hl;rw[e];generalize nG r=z at*;rw[w_in Aa];exact ih _ Aa Aa Aa
theorem gI4(s:Sh): -100000000000000<=uK s/\uK s<=100000000000000:=by
 unfold uK;split
 ·rename_i h
  obtain⟨q1,q2⟩:=fT0 s.outer;have hl:(rings s).length<=7:=by unfold rings;rw[List.length_cons];have:=h.1;omega
  generalize nG s.outer=z at*;have:=gJ2 (rings s) (W (2*z)) Aa (by rw[w_in (by omega)];omega) (by rw[w_in (by omega)];omega)
  omega
 ·exact⟨Aq,Aq⟩
def fT2(x:aN):Prop:=x.isBar=true->0<=x.bar.length/\x.bar.length<=100000000000000
def Bd(s:aJ):Prop:=∀x∈s.stocks,fT2 x
theorem bd0:Bd inv0:=fun x hx=>IX
theorem fV0{x:aN}(h:fT2 x): -100000000000000<=gG x/\gG x<=100000000000000:=by
 unfold gG;split
 ·rename_i hb
  have:=h hb;omega
 ·exact gI4 _
theorem fZ0{x:aN}{r:Rest}(hx:fT2 x)(h:iG x r=0):fT2 (dZ x r):=by
 intro hb;unfold dZ at hb⊢;by_cases h0:x.isBar=false
 ·rw[if_pos h0]at hb
  split at hb<;>cases hb
 ·rw[if_neg h0,if_pos h]
  have hx':x.isBar=true:=by cases hq:x.isBar with
   |true=>rfl
   |false=>exact absurd hq h0
  have hb:=hx hx';unfold iG at h;rw[if_neg h0]at h;split at h
  ·cases h
  ·split at h
   ·cases h
   ·rename_i h2
    show 0<=W (r.hi-r.lo)/\W (r.hi-r.lo)<=100000000000000;rw[w_in Aa];omega
theorem gI6{x:aN}{r:Rest}(hx:fT2 x)(h:iG x r=0):0<=gG (dZ x r)/\gG (dZ x r)<=100000000000000:=
 ⟨(yP h (fun hb=>by have:=hx hb;unfold R6;omega)).1,(fV0 (fZ0 hx h)).2⟩
theorem gI7{s s':aJ}{e:Event}(hv:Bd s)(hs:Step s e s'):Bd s':=by
 cases hs with
 |recv x hx hn=>
  intro y hy;rcases fH.1 hy with rfl|hy
  ·rcases hx with⟨_,rfl,h⟩|⟨_,rfl,h⟩
   ·exact fun q=>IZ
   ·exact fun _=>(by
     obtain⟨_,h1,h2,_⟩:=h;show 0<=e.bar.length/\e.bar.length<=100000000000000;omega)
  ·exact hv y hy
 |setK k m p hk hm hid=>
  intro y hy;rcases mem_set hy with rfl|hy
  ·exact(hv m (fC hm):fT2 m)
  ·exact hv y hy
 |disc k m hk hm hid=>exact fun y hy=>hv y ((kM _ _).subset hy)
 |setP k m st o hk hm hst hid=>exact hv
 |cut k m hk hf hfr hm hid hp hr hl=>
  intro y hy;rw[aF7]at hy
  have hfm:∀(xs l:List aN),y∈xs.foldl (putK sid) l->y∈l\/y∈xs:=by
   intro xs
   induction xs with
   |nil=>exact fun l h=> .inl h
   |cons x xs ih=>
    intro l h;rw[List.foldl_cons]at h;rcases ih _ h with h|h
    ·exact Oj
    ·exact .inr Ju
  rcases hfm _ _ hy with hy|hy
  ·exact hv y ((kM _ _).subset hy)
  ·obtain⟨r,h1,rfl,h3⟩:=yU hr hy
   exact fZ0 (hv m (fC hm)) h3
structure Fine(s:aJ)(n:Nat):Prop where
 ok:Ok s n
 bd:Bd s
theorem gG6:Fine inv0 0:=⟨ok0,bd0⟩
theorem fN9{s:aJ}{e:Event}{n:Nat}(h:Fine s n)(h0:(appR s e).2=0):Fine (appR s e).1 (n+more e):=by
 have hs:=(aZ6 h.ok h0).2;exact⟨eR5 h.ok hs,gI7 h.bd hs⟩
theorem gB0(s:aJ)(e:Event)(hF:Sp 20 [aS e] (.lit (.bool false))):fnVC T Tryz.prog Tryz.f16 [invV s,aS e] (.tup [invV inv0,I 1]):=by
 exact zF
theorem fO2{s:aJ}{e:Event}{n:Nat}(h:Fine s n)(hn:n<=900000)(he:iY e)(hb:aA4 e.sheet)(hc:e.cuts.length<=10000)(hr:e.rests.length<=10000):
 Sp 16 [invV s,aS e] (.tup [invV (appR s e).1,I (appR s e).2]):=by
 have hF:=fL6 e he hb;refine zsp Tryz.func16 ?_;by_cases hf:iD e;rotate_left
 ·rw[DB_f hf]at hF
  have ea:appR s e=(inv0,1):=if_neg hf;rw[ea];exact gB0 s e hF
 ·rw[DB_t hf]at hF
  exact fX9 s e (appR s e) (Nat.le_trans h.ok.lu hn) hc hr hF (fun hd=>gH5 hf hd) (Nat.le_trans h.ok.ls hn) (Nat.le_trans h.ok.lp hn) (fun k=>(aX9 (hf.2.2.2.1 k).2).1)
   (fun k hd=>app1 hf k hd) h.ok.ss (fun k _=>app3 hf k) (fun k _=>app4 hf k) h.ok.sz (fun k _=>app8 hf k)
   (fun k hd=>app5 hf k h.ok.su hd (fun m hm=>⟨(fV0 (h.bd m hm)).1,(fV0 (h.bd m hm)).2,fun r _ h0=>gI6 (h.bd m hm) h0⟩))
   (fun k hd=>app2 hf k hd) h.ok.sp (fun k _=>app6 hf k) (fun k _=>app7 hf k)
   hf.2.2.2.2.2.2.2.2.1 hf.2.2.2.2.2.2.2.2.2
def fP8(l D:List Event):St:=match D with
 | [] =>mkSt [(0, .sl (l.map aS)),(2,nilV),(3,nilV),(4,I 0)] [] []
 |d::D=>mkSt [(0, .sl (l.map aS)),(2,nilV),(3, .arr 18 D.length),(4,I ((D.length:Int)+1))] [] [(18,⟨D.length, .own,52,(d::D).map aS⟩)]
theorem gD4(l:List Event)(hl:l.length<=1000000)(he:∀e∈l,e.cuts.length<=10000/\e.rests.length<=10000):Sp 22 [.sl (l.map aS)] (.own 52 (l.map aS)):=by
 refine zsp Tryz.func22 ?_;have hm:(l.map aS).length=l.length:=Af
 repeat' ((conv=>whnf);first|refine zS ?_|fail)
 refine aU (A:=List Event) (B:=List Event) (fun D R=>fP8 l D) (fun D R=>l=D++R) (fun D R=>R.length) [] l ?_ rfl (fun D R hp=>?_)
 ·show Le T _ (fP8 l [])
  exact zj
 cases R with
 |cons e R=>
  have hlen:=aO hp;have g1:=bB8 e (by have:=he e (by rw[hp];simp);omega) (by have:=he e (by rw[hp];simp);omega)
  cases D with
  |nil=>
   have h0:([] :List Event).length=0:=rfl
   repeat' ((conv=>whnf);first|(exfalso;omega)|refine gX (of_decide_eq_true rfl) (dA rfl) (of_decide_eq_true rfl) ?_|refine zS ?_|refine zl (fun hlt=>?_) (fun hlt=>?_))
   all_goals conv=>whnf
   refine⟨([e],R),?_,Ac,Af⟩;show Le T _ (fP8 l [e]);exact zj
  |cons d D=>
   have hd:(d::D).length=D.length+1:=rfl
   repeat' ((conv=>whnf);first|(exfalso;omega)|refine mX (l:=d::D) rfl rfl (.inl rfl) rfl (of_decide_eq_true rfl) rfl Aa ?_|refine zS ?_|refine zl (fun hlt=>?_) (fun hlt=>?_))
   all_goals conv=>whnf
   refine⟨(d::D++[e],R),?_,Ac,Af⟩;show Le T _ (fP8 l (d::(D++[e])));unfold fP8;exact PK
 |nil=>
  have hlen:l.length=D.length:=Ac;have hDe:l=D:=Ac
  clear hp;subst hDe
  cases l with
  |nil=>
   have h0:([] :List Event).length=0:=rfl;exact QJ
  |cons d D=>exact MZ
theorem fV2(l:List Event)(he:∀e∈l,iY e/\aA4 e.sheet/\e.cuts.length<=10000/\e.rests.length<=10000)(hb:moreL l<=900000)(hl:l.length<=1000000):Sp 23 [.sl (l.map aS)] (.tup [invV (kL inv0 0 l).1,I (kL inv0 0 l).2.1,I (kL inv0 0 l).2.2]):=by
 refine zsp Tryz.func23 ?_;have hm:(l.map aS).length=l.length:=Af;generalize hr:kL inv0 0 l=q
 repeat' ((conv=>whnf);first|refine zS ?_|fail)
 refine oU (A:=aJ) (B:=List Event) (C:=List Event) (fun s D R=>mkSt [(0, .sl (l.map aS)),(2, .box 2 0),(3,I 0),(4,I 0),(5, .box 5 0),(6,I D.length)] [(2,zInv),(5,invC s)] []) (fun s D R=>l=D++R/\kL s D.length R=q/\∃n,Fine s n/\n+moreL R<=900000) (fun s D R=>R.length) inv0 [] l ?_ ⟨rfl,hr,0,gG6,Aa⟩ (fun s D R hp=>?_)
 ·show Le T _ (mkSt [(0, .sl (l.map aS)),(2, .box 2 0),(3,I 0),(4,I 0),(5, .box 5 0),(6,I 0)] [(2,zInv),(5,invC inv0)] [])
  exact zj
 obtain⟨hp,hq,n,hn,hnl⟩:=hp
 cases R with
 |nil=>exact Kv
 |cons e R=>
  have hlen:=aO hp;have em:moreL (e::R)=more e+moreL R:=Jr
  obtain⟨z1,z2,z3,z4⟩:=he e Ac;have g1:=fO2 hn Aa z1 z2 z3 z4;have g2:=fN9 (e:=e) hn
  have hlD:((D++[e]).length:Int)=(D.length:Int)+1:=Af;have hqq:kL s D.length (e::R)=if(appR s e).2=0 then kL (appR s e).1 ((D.length:Int)+1) R else(s,(D.length:Int),(appR s e).2):=rfl
  rw[hqq]at hq;generalize appR s e=a at*;by_cases c:a.2=0
  ·rw[if_pos c]at hq
   have g3:=g2 c;rw[c]at g1
   repeat' ((conv=>whnf);first|(exfalso;omega)|refine zS ?_|refine zT ?_ ?_<;>intro _|fail)
   all_goals conv=>whnf
   refine⟨(a.1,D++[e],R),?_,⟨Ac,by rw[hlD];exact hq,n+more e,g3,by show n+more e+moreL R<=900000;omega⟩,Af⟩
   exact P6
  ·rw[if_neg c]at hq
   subst hq;exact zF
theorem fO9:∀(l:List Event) (s:aJ) (i:Int) (n:Nat),Fine s n->∃m,m<=n+moreL l/\Fine (kL s i l).1 m
 | [],s,i,n,h=>⟨n,Nat.le_add_right _ _,h⟩
 |e::l,s,i,n,h=>by
  have em:moreL (e::l)=more e+moreL l:=Jr;have hq:kL s i (e::l)=if(appR s e).2=0 then kL (appR s e).1 (i+1) l else(s,i,(appR s e).2):=rfl
  rw[hq];by_cases c:(appR s e).2=0
  ·rw[if_pos c]
   obtain⟨m,h1,h2⟩:=fO9 l (appR s e).1 (i+1) _ (fN9 h c);exact⟨m,Aa,h2⟩
  ·rw[if_neg c]
   exact⟨n,Aa,h⟩
def thC(x:aJ)(c r:V):List V:=[c,r, .sl (x.used.map I),I x.received.1,I x.received.2,I x.scrap.1,I x.scrap.2]
abbrev yO:List V:=[nilV,nilV,nilV,I 0,I 0,I 0,I 0]
def thS1(x:aJ):List aN->Int->St
 | [],n=>mkSt [(1, .box 1 0),(2, .box 2 0),(3, .box 3 0),(4,I n)] [(1,invC x),(2,yO),(3,thC x nilV nilV)] []
 |c::C,n=>mkSt [(1, .box 1 0),(2, .box 2 0),(3, .box 3 0),(4,I n)] [(1,invC x),(2,yO),(3,thC x (.arr 28 C.length) nilV)] [(28,⟨C.length, .own,87,(c::C).map aQ⟩)]
def thS2(x:aJ):List aN->List Piece->Int->St
 | [],[],n=>mkSt [(1, .box 1 0),(2, .box 2 0),(3, .box 3 0),(5,I n)] [(1,invC x),(2,yO),(3,thC x nilV nilV)] []
 |c::C,[],n=>mkSt [(1, .box 1 0),(2, .box 2 0),(3, .box 3 0),(5,I n)] [(1,invC x),(2,yO),(3,thC x (.arr 28 C.length) nilV)] [(28,⟨C.length, .own,87,(c::C).map aQ⟩)]
 | [],r::R,n=>mkSt [(1, .box 1 0),(2, .box 2 0),(3, .box 3 0),(5,I n)] [(1,invC x),(2,yO),(3,thC x nilV (.arr 45 R.length))] [(45,⟨R.length, .own,98,(r::R).map aZ⟩)]
 |c::C,r::R,n=>mkSt [(1, .box 1 0),(2, .box 2 0),(3, .box 3 0),(5,I n)] [(1,invC x),(2,yO),(3,thC x (.arr 28 C.length) (.arr 45 R.length))] [(28,⟨C.length, .own,87,(c::C).map aQ⟩),(45,⟨R.length, .own,98,(r::R).map aZ⟩)]
end Go.Proofs.Led
