/-
  Rings: corners, area, edges, walked.
-/
import Derived.Test.YtdjgbagnajikeaaGreatDoorSV4
import Derived.Test.YtdjgbagnajikeaaGreatDoorA12
set_option linter.unusedVariables false
set_option linter.unusedSimpArgs false
set_option maxRecDepth 100000
set_option maxHeartbeats 4000000
noncomputable section
namespace Go.Proofs.Led
open Go Go.Proofs Go.Ab
theorem fB5{g:FuncId}{Q:Vc->Prop}(hg:∀m,Sp g (vcV m:: []) (DB (Q m)))(l:List Vc)(b:l.length<=1000000):fnVC T Tryz.prog Tryz.f285 [.sl (l.map vcV), .fn g []] (I (fstI Q l)):=by
 have a:(l.map vcV).length=l.length:=Ae
 repeat' ((conv=>whnf);first|refine zS ?_|fail)
 refine aU (A:=List Vc) (B:=List Vc) (λD R=>mkSt [(0, .sl (l.map vcV)),(1, .fn g []),(7,I l.length),(8,I D.length)] [] [])
  (λD R=>l=D++R/\∀m∈D,¬Q m) (λD R=>R.length) [] l ?_ ⟨rfl,Ae⟩ (λD R hp=>?_)
 ·exact zj
 ·exact Iz
theorem eI1{g:FuncId}{Q:Vc->Prop}(a:∀m,Sp g (vcV m:: []) (DB (Q m)))(l:List Vc)(b:l.length<=1000000):Sp 285 [.sl (l.map vcV), .fn g []] (I (fstI Q l)):=zsp Tryz.func285 (fB5 a l b)
theorem fC1{g:FuncId}{Q:Vc->Prop}(a:∀m,Sp g (vcV m:: []) (DB (Q m)))(l:List Vc)(b:l.length<=1000000):fnVC T Tryz.prog Tryz.f236 [.sl (l.map vcV), .fn g []] (DB (∃m∈l,Q m)):=by
 repeat' ((conv=>whnf);first|refine zc (eI1 a l b) ?_|refine zS ?_|fail)
 exact MW
theorem dV4{g:FuncId}{Q:Vc->Prop}(a:∀m,Sp g (vcV m:: []) (DB (Q m)))(l:List Vc)(b:l.length<=1000000):Sp 236 [.sl (l.map vcV), .fn g []] (DB (∃m∈l,Q m)):=zsp Tryz.func236 (fC1 a l b)
theorem aS9(s t:Sg):Sp 198 [sgV s,sgV t] (I (dG s t)):=by
 refine zsp Tryz.func198 ?_
 repeat' ((conv=>whnf);first|refine zc (cU7 s t) ?_|refine zS ?_|fail)
 all_goals exact zE
theorem eD9(v:Vc):Sp 237 [vcV v] (DB (¬within v 2000)):=by
 refine zsp Tryz.func237 ?_
 repeat' ((conv=>whnf);first|refine zc (kC v 2000) ?_|refine zS ?_|fail)
 all_goals conv=>whnf
 all_goals refine aA (aF6 dW)
theorem dS7(r:Rg)(a:r.length<=1000000):Sp 193 [rgV r] (DB (bR7 r)):=by
 refine zsp Tryz.func193 ?_
 repeat' ((conv=>whnf);first|refine zc (dV4 (λv=>eD9 v) r a) ?_|refine zS ?_|fail)
 all_goals conv=>whnf
 all_goals refine aA (aF6 ?_)
 rw[dW];unfold bR7;constructor
 ·intro h v hv
  exact Qw
 ·rintro h ⟨v,hv,hn⟩
  exact hn (h v hv)
theorem dX5{z:Int}{a n:Nat}(h:z=(a:Int)):z.tmod (n:Int)=((a% n:Nat):Int):=by
 grind
theorem getD_some{r:Rg}{k:Nat}(h:k<r.length):r[k]? =some (r.getD k z0):=by
 simp_all
theorem sW{r:Rg}{z:Int}{k:Nat}{K:V->Prop}(b:z=(k:Int))(h:k<r.length)(a:K (vcV (r.getD k z0))):idx (r.map vcV) z.toNat K:=
 gK (l:=r) (getD_some h) Aa a
theorem kS{r:Rg}{z:Int}{a:Nat}(h:z=(a:Int)):z.tmod ((r.map vcV).length:Int)=((a% r.length:Nat):Int):=by rw[eT0,dX5 h]
theorem aR7(r:Rg)(i:Nat)(hi:i<r.length)(d:r.length<=1000000):Sp 196 [rgV r,I i] (vcV (iU r i)):=by
 refine zsp Tryz.func196 ?_;have c:(r.map vcV).length=r.length:=Ae;have b:(i+1)% r.length<r.length:=RV _ Aa
 repeat' ((conv=>whnf);first|refine uM Aa ?_|refine aB (l:=r) (by rw[kS (a:=i+1) (by omega)];omega) ?_|refine sW (k:=(i+1)% r.length) (kS Aa) b ?_|refine zS ?_|fail)
 all_goals exact zE
theorem dJ5(r:Rg)(i:Nat)(hi:i<r.length)(d:r.length<=1000000):Sp 195 [rgV r,I i] (vcV (mY r i)):=by
 refine zsp Tryz.func195 ?_;have c:(r.map vcV).length=r.length:=Ae;have b:(i+r.length-1)% r.length<r.length:=RV _ Aa
 repeat' ((conv=>whnf);first|refine uM Aa ?_|refine aB (l:=r) (by rw[kS (a:=i+r.length-1) (by omega)];omega) ?_|refine sW (k:=(i+r.length-1)% r.length) (kS Aa) b ?_|refine zS ?_|fail)
 all_goals exact zE
theorem aU3{r:Rg}{z:Int}{k:Nat}{K:V->Prop}(b:z=(k:Int))(h:k<r.length)(a:K (vcV (r.getD k z0))):idx (r.map vcV) z.toNat K:=sW b h a
theorem bT2(r:Rg)(f:r.length<=1000000):Sp 151 [rgV r] (I (zY r)):=by
 refine zsp Tryz.func151 ?_;have d:(r.map vcV).length=r.length:=Ae
 repeat' ((conv=>whnf);first|refine zS ?_|fail)
 refine lD (A:=Nat) (λk=>mkSt [(0,rgV r),(3,I (cI8 r k)),(6,rgV r),(7,I r.length),(8,I k)] [] []) (λk=>k<=r.length) (λk=>r.length-k) 0 ?_ Aa (λk g=>?_)
 ·exact zj
 have c:=aR7 r k;have b:=bC2 r k
 by_cases a:k<r.length
 ·repeat' ((conv=>whnf);first|omega|refine aU3 (k:=k) Aa a ?_|refine zc (c a f) ?_|refine zc (kD (r.getD k z0) (iU r k)) ?_|refine zS ?_|refine zT ?_ ?_<;>intro _|fail)
  all_goals conv=>whnf
  refine⟨k+1,?_,Aa,Aa⟩;simp only[b];exact zj
 ·have e:k=r.length:=by omega
  subst e;exact zF
def aH8(r:Rg)(k:Nat):List Sg:=(List.range k).map (aJ4 r)
theorem cS0(r:Rg)(k:Nat):(aH8 r k).map sgV++[sgV (aJ4 r k)] =(aH8 r (k+1)).map sgV:=by unfold aH8;rw[List.range_succ];simp
theorem bV5(r:Rg)(k:Nat):((aH8 r k).map sgV).length=k:=by unfold aH8;simp
def eX7(r:Rg)(k:Nat):St:=match k with
 |0=>mkSt [(0,rgV r),(3,nilV),(9,rgV r),(10,I r.length),(11,I 0)] [] []
 |k+1=>mkSt [(0,rgV r),(3, .arr 23 k),(9,rgV r),(10,I r.length),(11,I ((k:Int)+1))] [] [(23,⟨k, .own,270,(aH8 r (k+1)).map sgV⟩)]
theorem cK3{r:Rg}(h:r.length<2):bF r=[] :=Q9 h
theorem bA9{r:Rg}(h:¬r.length<2):bF r=aH8 r r.length:=Q5 h
theorem qE(r:Rg)(f:r.length<=1000000):Sp 197 [rgV r] (.own 270 ((bF r).map sgV)):=by
 refine zsp Tryz.func197 ?_;have j:(r.map vcV).length=r.length:=Ae;have h1:=cK3 (r:=r)
 have l:=bA9 (r:=r);by_cases hr:r.length<2
 ·exact JK
 rw[l hr]
 repeat' ((conv=>whnf);first|omega|refine zS ?_|refine zT ?_ ?_<;>intro _|fail)
 refine lD (A:=Nat) (eX7 r) (λk=>k<=r.length) (λk=>r.length-k) 0 ?_ Aa (λk m=>?_)
 ·exact zj
 have d:=aR7 r k;have g:=cS0 r k
 have c:=bV5 r k
 match k with
 |0=>
  repeat' ((conv=>whnf);first|omega|refine aU3 (k:=0) Aa Aa ?_|refine zc (d Aa f) ?_|refine fU ⟨QC Ac,QC Ac,dA rfl⟩ ?_|refine zS ?_|refine zT ?_ ?_<;>intro _|fail)
  all_goals conv=>whnf
  refine⟨1,?_,Aa,Aa⟩;exact zj
 |k+1=>
  have b:=bV5 r (k+1);have i:(List.map sgV (aH8 r (k+1))).length+1<=1000000000:=Aa
  by_cases a:k+1<r.length
  ·repeat' ((conv=>whnf);first|omega|refine aU3 (k:=k+1) Aa a ?_|refine zc (d a f) ?_|refine iH rfl (.inl rfl) rfl (QC rfl) (dA rfl) i ?_|refine zS ?_|refine zT ?_ ?_<;>intro _|fail)
   all_goals conv=>whnf
   refine⟨k+2,?_,Aa,Aa⟩;show Le T _ (mkSt [(0,rgV r),(3, .arr 23 (k+1)),(9,rgV r),(10,I r.length),(11,I (((k+1:Nat):Int)+1))] [] [(23,⟨k+1, .own,270,(aH8 r (k+1+1)).map sgV⟩)]);rw[<-g];exact zj
  ·exact JE
theorem dT0{r:Rg}(h:2<=r.length):(bF r).length=r.length:=by
 rw[bA9 Aa];simp[aH8]
theorem dS{en:AE}{g:Nat}{z:Int}{K:Prop}(d:en.gen=g)(c:en.kind= .own)(a:0<=z/\z<en.l.length)(b:K):need (en.gen=g/\en.kind≠ .dead/\0<=z/\z<en.l.length) K:=fU ⟨d,(by rw[c];exact λh=>by cases h),a.1,a.2⟩ b
theorem dV6{l:List Sg}{z:Int}{k:Nat}{K:V->Prop}(b:z=(k:Int))(h:k<l.length)(a:K (sgV (l.getD k (z0,z0)))):idx (l.map sgV) z.toNat K:=by
 subst b;refine gK (l:=l) (j:=k) (x:=l.getD k (z0,z0)) ?_ Aa a;exact Qe
theorem lN(r:Rg)(c:r.length<=1000000):Sp 148 [rgV r] (DB (dM r)):=by
 refine zsp Tryz.func148 ?_;have q:(r.map vcV).length=r.length:=Ae;generalize hP:dM r=P;have d:P↔dM r:=GI
 unfold dM at d
 repeat' ((conv=>whnf);first|refine zc (dS7 r c) ?_|refine zc (bT2 r c) ?_|refine zS ?_|refine zT ?_ ?_<;>intro _|fail)
 all_goals conv=>whnf
 all_goals first
  |(refine aA (aC ?_);rw[d];intro h;obtain⟨h1,h2,h3,x,D,B⟩:=h;first|omega|contradiction)
  |skip
 have h3:3<=r.length:=Aa;have j:r.length<=40:=Aa
 have o:bR7 r:=Ag;have n:0<zY r:=Aa
 refine lD (A:=Nat) (λk=>mkSt [(0,rgV r),(3,I r.length),(27,rgV r),(28,I r.length),(29,I k)] [] []) (λk=>k<=r.length/\∀i,i<k->kR (mY r i) (r.getD i z0) (iU r i)≠0) (λk=>r.length-k) 0 ?_ ⟨Aa,λi hi=>Aa⟩ (λk b=>?_)
 ·exact zj
 obtain⟨b,ht⟩:=b;have s:=aR7 r k;have v:=dJ5 r k
 by_cases a:k<r.length
 ·repeat' ((conv=>whnf);first|omega|refine aU3 (k:=k) Aa a ?_|refine zc (s a c) ?_|refine zc (v a c) ?_|refine zc (aI8 (mY r k) (r.getD k z0) (iU r k)) ?_|refine zS ?_|refine zT ?_ ?_<;>intro _|fail)
  all_goals conv=>whnf
  ·refine aA (aC ?_)
   rw[d];intro h;exact h.2.2.2.2.1 k a Ag
  ·exact KP
 have u:k=r.length:=Aa;subst u;have g:=dT0 (r:=r) Aa
 have l:=qE r c;generalize z:bF r=E at*;have t:(E.map sgV).length=r.length:=by rw[QS];exact g
 repeat' ((conv=>whnf);first|omega|refine zS ?_|refine zT ?_ ?_<;>intro _|fail)
 refine lD (A:=Nat) (λi=>mkSt [(3,I r.length),(6, .arr 45 0),(46,I r.length),(47,I i)] [] [(45,⟨0, .own,270,E.map sgV⟩)]) (λi=>i<=r.length/\∀i' k',i'<i->i'<k'->k'<r.length->cZ4 E r.length i' k') (λi=>r.length-i) 0 ?_ ⟨Aa,λi' k' hi=>Aa⟩ (λi hi=>?_)
 ·exact zj
 obtain⟨hi,hap⟩:=hi;by_cases w:i<r.length
 ·repeat' ((conv=>whnf);first|omega|refine zS ?_|refine zT ?_ ?_<;>intro _|fail)
  refine lD (A:=Nat) (λk=>mkSt [(3,I r.length),(6, .arr 45 0),(46,I r.length),(47,I i),(7,I i),(8,I k)] [] [(45,⟨0, .own,270,E.map sgV⟩)]) (λk=>i<k/\k<=r.length/\∀k',i<k'->k'<k->cZ4 E r.length i k') (λk=>r.length-k) (i+1) ?_ ⟨Aa,Aa,λk' h1 h2=>Aa⟩ (λk b=>?_)
  ·exact zj
  obtain⟨f,b,hin⟩:=b;by_cases a:k<r.length
  ·repeat' ((conv=>whnf);first|omega|refine dS rfl rfl F9 ?_|refine dV6 (k:=i) Aa Aa ?_|refine dV6 (k:=k) Aa Aa ?_|refine zc (aS9 (E.getD i (z0,z0)) (E.getD k (z0,z0))) ?_|refine zS ?_|refine zT ?_ ?_<;>intro _|fail)
   all_goals conv=>whnf
   all_goals first
    |(refine aA (aC ?_);rw[d];intro h;exact absurd (h.2.2.2.2.2 i k f a Aa Aa) Ag)
    |skip
   all_goals
    refine⟨k+1,?_,⟨Aa,Aa,λk' h1 h2=>?_⟩,Aa⟩
    ·exact zj
    ·by_cases e:k'=k
     ·subst e
      intro C y
      first|assumption|omega
     ·exact hin k' h1 Aa
  ·exact Ju
 ·have m:i=r.length:=by omega
  subst m
  repeat' ((conv=>whnf);first|omega|refine zS ?_|refine zT ?_ ?_<;>intro _|fail)
  all_goals conv=>whnf
  refine aA (fE ?_);rw[d];exact⟨h3,j,o,n,ht,λi k h1 h2=>hap i k Aa h1 h2⟩
theorem eA0{r:Rg}(h:dM r):nG r=zY r:=Q9 h
theorem dX4{r:Rg}(h:¬dM r):nG r=0:=Q5 h
theorem aX1(r:Rg)(a:r.length<=1000000):Sp 110 [rgV r] (I (nG r)):=by
 refine zsp Tryz.func110 ?_;have c:=eA0 (r:=r);have b:=dX4 (r:=r)
 generalize nG r=A at*
 repeat' ((conv=>whnf);first|refine zc (lN r a) ?_|refine zc (bT2 r a) ?_|refine zS ?_|refine zT ?_ ?_<;>intro _|fail)
 all_goals conv=>whnf
 all_goals first
  |exact aG (b Ag).symm
  |exact aG (c Ag).symm
theorem cM0(p:Pt)(v:Vc):Sp 292 [vcV v, .fp (ptV p).cells] (vcV (toP p v)):=by
 refine zsp Tryz.func292 ?_;exact Ob
theorem dT8{a b:Bool}:eqBB a b=true↔a=b:=by unfold eqBB;simp
theorem br_ll{a b:Int}{A B:Prop}(d:(0<=a↔0<=b)->A)(c:¬(0<=a↔0<=b)->B):branch (eqBB (leB 0 a) (leB 0 b)) A B:=by
 have e:eqBB (leB 0 a) (leB 0 b)=true↔(0<=a↔0<=b):=by rw[dT8,Ti,bV6,bV6]
 grind [jU]
theorem br_l2{a b:Int}{A B:Prop}(d:(0<=a↔0<b)->A)(c:¬(0<=a↔0<b)->B):branch (eqBB (leB 0 a) (ltB 0 b)) A B:=by
 have e:eqBB (leB 0 a) (ltB 0 b)=true↔(0<=a↔0<b):=by rw[dT8,Ti,bV6,dC8]
 grind [jU]
theorem qB(p:Pt):∀b:Bool,lU p [] b=if b=true then 2 else 0:=λb=>by unfold lU;rfl
theorem oP{p:Pt}{e:Sg}{es:List Sg}{b:Bool}(h:onE p e):lU p (e::es) b=1:=by
 rw[lU,Q9 h]
theorem rE{p:Pt}{e:Sg}{es:List Sg}{b:Bool}(h:¬onE p e)(a:rW p e):lU p (e::es) b=lU p es (!b):=by
 rw[lU,Q5 h,Q9 a]
theorem jD{p:Pt}{e:Sg}{es:List Sg}{b:Bool}(h:¬onE p e)(a:¬rW p e):lU p (e::es) b=lU p es b:=by
 rw[lU,Q5 h,Q5 a]
theorem eA4{r:Rg}{p:Pt}(h:¬dM r\/¬wJ p):iF r p=0:=Q5 (λq=>by rcases h with h|h<;>simp_all)
theorem aD9{r:Rg}{p:Pt}(h:dM r)(a:wJ p):iF r p=lU p (bF r) false:=Q9 ⟨h,a⟩
theorem aB7(r:Rg)(p:Pt)(s:r.length<=1000000):Sp 242 [rgV r,ptV p] (I (iF r p)):=by
 refine zsp Tryz.func242 ?_;have n:=eA4 (r:=r) (p:=p);have v:=aD9 (r:=r) (p:=p)
 have j:=qE r s;generalize iF r p=A at*;generalize o:bF r=E at*
 repeat' ((conv=>whnf);first|refine zc (lN r s) ?_|refine zc (bW9 p) ?_|refine zc j ?_|refine zS ?_|refine zT ?_ ?_<;>intro _|fail)
 all_goals conv=>whnf
 all_goals first
  |exact aG (n GK).symm
  |skip
 have F:=v Ag Ag;clear n v
 have z:E.length<=1000000:=by
  rw[<-o];unfold bF;split<;>simp;omega
 clear o j;refine oU (A:=List Sg) (B:=List Sg) (C:=Bool) (λD R b=>mkSt [(5, .fn 292 [.fp (ptV p).cells]),(6, .lit (.bool b)),(23, .arr 23 0),(24,I E.length),(25,I D.length)] [] [(23,⟨0, .own,270,E.map sgV⟩)]) (λD R b=>E=D++R/\A=lU p R b) (λD R b=>R.length) [] E false ?_ ⟨rfl,F⟩ (λD R b hp=>?_)
 ·exact II
 obtain⟨hp,k⟩:=hp
 cases R with
 |nil=>
  have g:E.length=D.length:=Ad;rw[qB]at k
  repeat' ((conv=>whnf);first|omega|refine zS ?_|refine zT ?_ ?_<;>intro _|fail)
  all_goals conv=>whnf
  all_goals exact aG (by rw[k];simp[*])
 |cons e R=>
  have g:=aO hp;have u:=oP (p:=p) (e:=e) (es:=R) (b:=b)
  have t:=rE (p:=p) (e:=e) (es:=R) (b:=b);have w:=jD (p:=p) (e:=e) (es:=R) (b:=b)
  rw[<-k]at u t w;have y:=kD (vsub e.2 e.1) (toP p e.1);have d:onE p e↔bZ (vsub e.2 e.1) (toP p e.1)=0/\_:=Rt
  have i:rW p e↔¬(0<=(toP p e.1).2↔0<=(toP p e.2).2)/\(0<=(toP p e.1).2↔0<bZ (vsub e.2 e.1) (toP p e.1)):=Rt;simp only[<-lH,<-mG]at d;generalize bZ (vsub e.2 e.1) (toP p e.1)=m at*;have G:=cM0 p e.1
  have H:=cM0 p e.2;generalize toP p e.1=a at*;generalize toP p e.2=c at*
  repeat' ((conv=>whnf);first|omega|refine dS rfl rfl (by show 0<=_/\_< ((E.map sgV).length:Int);rw[QS];omega) ?_|refine aF (l:=E) (A:=D) (x:=e) (B:=R) hp Aa ?_|refine zc G ?_|refine zc H ?_|refine zc (fF e.2 e.1) ?_|refine zc y ?_|refine br_ll (λf=>?_) (λf=>?_)|refine br_l2 (λf=>?_) (λf=>?_)|refine zS ?_|refine zT ?_ ?_<;>intro _|fail)
  all_goals conv=>whnf
  all_goals first
   |exact aG (u (d.2 ⟨Aa,Aa,Aa,Aa,Aa⟩)).symm
   |skip
  all_goals
   first
   |(refine⟨(D++[e],R, !b),?_,⟨Ad,t (λq=>by have q:=d.1 q;omega) (i.2 ⟨Ag,Ag⟩)⟩,Ae⟩)
   |(refine⟨(D++[e],R,b),?_,⟨Ad,w (λq=>by have q:=d.1 q;omega) (λq=>by obtain⟨K,J⟩:=i.1 q;contradiction)⟩,Ae⟩)
   exact MQ
theorem aC1{r:Rg}{v:Vc}(h:within v 4000):fJ r v=iF r (v.1,v.2,1):=Q9 h
theorem eA7{r:Rg}{v:Vc}(h:¬within v 4000):fJ r v=0:=Q5 h
theorem cL0(r:Rg)(v:Vc)(a:r.length<=1000000):Sp 201 [rgV r,vcV v] (I (fJ r v)):=by
 refine zsp Tryz.func201 ?_;have c:=aC1 (r:=r) (v:=v);have b:=eA7 (r:=r) (v:=v)
 generalize fJ r v=A at*
 repeat' ((conv=>whnf);first|refine zc (kC v 4000) ?_|refine zc (zN v) ?_|refine zc (aB7 r (v.1,v.2,1) a) ?_|refine zS ?_|refine zT ?_ ?_<;>intro _|fail)
 all_goals conv=>whnf
 all_goals first
  |exact aG (b Ag).symm
  |exact aG (c Ag).symm
open Classical in
def boxR(r:Rg):Bx×Bool:=if dM r then aC7 r else(((0,0),(0,0)),false)
theorem dX3{r:Rg}(h:dM r):boxR r=aC7 r:=Q9 h
theorem eX2{r:Rg}(h:¬dM r):boxR r=(((0,0),(0,0)),false):=Q5 h
theorem dL2(r:Rg)(b:r.length<=1000000):Sp 205 [rgV r] (.tup [bxV (boxR r).1, .lit (.bool (boxR r).2)]):=by
 refine zsp Tryz.func205 ?_;have d:=dX3 (r:=r);have c:=eX2 (r:=r)
 have e:=bI9 r b;generalize boxR r=A at*;generalize aC7 r=B at*
 repeat' ((conv=>whnf);first|refine zc (lN r b) ?_|refine zS ?_|refine zd (λa=>?_) (λa=>?_))
 ·rw[d a]
  all_goals exact zE
 ·rw[c a]
  all_goals exact zE
theorem eL0{r:Rg}{k:Nat}(h:k<r.length):r.take (k+1)=r.take k++[r.getD k z0] :=by
 rw[Uh,getD_some h];rfl
theorem eA2(a b:Rg)(i:a.length<=1000000)(g:b.length<=1000000):Sp 293 [rgV a,rgV b] (DB (a=b)):=by
 refine zsp Tryz.func293 ?_;have d:(a.map vcV).length=a.length:=Ae;have f:(b.map vcV).length=b.length:=Ae
 repeat' ((conv=>whnf);first|refine zS ?_|refine zT ?_ ?_<;>intro _|fail)
 all_goals conv=>whnf
 all_goals first
  |(refine aA (aC ?_);intro h;subst h;omega)
  |skip
 have hab:a.length=b.length:=Aa;refine lD (A:=Nat) (λk=>mkSt [(0,rgV a),(1,rgV b),(11,rgV a),(12,I a.length),(13,I k)] [] []) (λk=>k<=a.length/\a.take k=b.take k) (λk=>a.length-k) 0 ?_ ⟨Aa,rfl⟩ (λk c=>?_)
 ·exact zj
 obtain⟨c,ht⟩:=c;by_cases e:k<a.length
 ·repeat' ((conv=>whnf);first|omega|refine aU3 (r:=a) (k:=k) Aa Aa ?_|refine aU3 (r:=b) (k:=k) Aa Aa ?_|refine aT1 ?_|refine aB4 (λhv=>?_) (λhv=>?_)|refine zS ?_|refine zT ?_ ?_<;>intro _|fail)
  all_goals conv=>whnf
  ·refine⟨k+1,?_,⟨Aa,?_⟩,Aa⟩
   ·exact zj
   ·rw[eL0 Aa,eL0 Aa,ht,hv]
  ·refine aA (aC ?_)
   intro h;subst h;exact hv rfl
 ·have ek:k=a.length:=by omega
  repeat' ((conv=>whnf);first|omega|refine zS ?_|refine zT ?_ ?_<;>intro _|fail)
  all_goals conv=>whnf
  exact PI
theorem wF(m x:Vc)(l:List Vc):sQ m (x::l)=sQ (open Classical in if kF x m then x else m) l:=by rw[sQ]
theorem cL6(r:Rg)(j:r.length<=1000000)(e:r≠ []):Sp 294 [rgV r, .fn 249 []] (vcV (wO r)):=by
 refine zsp Tryz.func294 ?_;have g:(r.map vcV).length=r.length:=Ae;have f:1<=r.length:=by cases r with|nil=>exact absurd rfl e|cons x l=>simp
 obtain⟨x,l,d⟩:∃x l,r=x::l:=by cases r with|nil=>exact absurd rfl e|cons x l=>exact⟨x,l,rfl⟩
 have c:wO r=sQ x l:=by rw[d];rfl
 repeat' ((conv=>whnf);first|omega|refine aF (l:=r) (A:=[]) (x:=x) (B:=l) d rfl ?_|refine zS ?_|refine zl (λhlt=>?_) (λhlt=>?_))
 refine oU (A:=List Vc) (B:=List Vc) (C:=Vc) (λD R m=>mkSt [(0,rgV r),(1, .fn 249 []),(4, .box 4 0),(5, .box 5 0),(6,I D.length)] [(4,[I 0,I 0]),(5,(vcV m).cells)] []) (λD R m=>r=D++R/\wO r=sQ m R/\1<=D.length) (λD R m=>R.length) [x] l x ?_ ⟨d,c,Ae⟩ (λD R m hp=>?_)
 ·exact zj
 obtain⟨hp,b,i⟩:=hp
 cases R with
 |nil=>
  have a:r.length=D.length:=Ad;rw[b];exact N8
 |cons y R=>
  have a:=aO hp;rw[wF]at b
  repeat' ((conv=>whnf);first|omega|refine zc (qI y m) ?_|refine zS ?_|refine zl (λhlt=>?_) (λhlt=>?_))
  all_goals conv=>whnf
  ·refine⟨(D++[y],R,y),?_,⟨Ad,by rw[b,Q9 (show kF y m from hlt)],Ae⟩,Ae⟩
   exact MQ
  ·refine⟨(D++[y],R,m),?_,⟨Ad,by rw[b,Q5 (show¬kF y m by unfold kF;omega)],Ae⟩,Ae⟩
   exact MQ
def bZ1(v:Vc)(r:Rg):Int:=match sN v r 0 with|some j=>j|none=> -1
theorem cJ4(r:Rg)(v:Vc)(d:r.length<=1000000):Sp 295 [rgV r,vcV v] (I (bZ1 v r)):=by
 refine zsp Tryz.func295 ?_;have c:(r.map vcV).length=r.length:=Ae;unfold bZ1
 repeat' ((conv=>whnf);first|refine zS ?_|fail)
 refine aU (A:=List Vc) (B:=List Vc) (λD R=>mkSt [(0,rgV r),(3, .box 3 0),(6,rgV r),(7,I r.length),(8,I D.length)] [(3,(vcV v).cells)] []) (λD R=>r=D++R/\sN v r 0=sN v R D.length) (λD R=>R.length) [] r ?_ ⟨rfl,rfl⟩ (λD R hp=>?_)
 ·exact zj
 obtain⟨hp,b⟩:=hp
 cases R with
 |nil=>
  have a:r.length=D.length:=Ad
  repeat' ((conv=>whnf);first|omega|refine zS ?_|refine zT ?_ ?_<;>intro _|fail)
  all_goals conv=>whnf
  exact aG (by rw[b];rfl)
 |cons y R=>
  have a:=aO hp;rw[sN]at b
  repeat' ((conv=>whnf);first|omega|refine aT1 ?_|refine aB4 (λhv=>?_) (λhv=>?_)|refine zS ?_|refine zT ?_ ?_<;>intro _|fail)
  all_goals conv=>whnf
  ·exact aG (by rw[b,Q9 hv])
  ·rw[Q5 hv]at b
   refine⟨(D++[y],R),?_,⟨Ad,by rw[b];simp⟩,Ae⟩
   exact MQ
theorem fB6{g:FuncId}{c d:List V}{Q:Vc->Prop}(i:∀m,Sp g (vcV m:: [.fp c, .fp d]) (DB (Q m)))(l:List Vc)(k:l.length<=1000000):fnVC T Tryz.prog Tryz.f241 [.sl (l.map vcV), .fn g [.fp c, .fp d]] (I (fstI Q l)):=by
 have j:(l.map vcV).length=l.length:=Ae
 repeat' ((conv=>whnf);first|refine zS ?_|fail)
 refine aU (A:=List Vc) (B:=List Vc) (λD R=>mkSt [(0, .sl (l.map vcV)),(1, .fn g [.fp c, .fp d]),(7,I l.length),(8,I D.length)] [] [])
  (λD R=>l=D++R/\∀m∈D,¬Q m) (λD R=>R.length) [] l ?_ ⟨rfl,Ae⟩ (λD R f=>?_)
 ·exact zj
 ·obtain⟨h1,h2⟩:=f
  have a:l.length=D.length+R.length:=Bh;have hD:∀y∈D,(!decB (Q y))=true:=λy hy=>BZ
  cases R with
  |nil=>
   have e:l=D:=Bh;simp at a
   repeat' ((conv=>whnf);first|omega|refine zS ?_|refine zl (λb=>?_) (λb=>?_))
   exact Qu
  |cons x R=>
   rw[QM]at a
   repeat' ((conv=>whnf);first|omega|refine aF (l:=l) (A:=D) (x:=x) (B:=R) h1 Aa ?_|refine zc (i x) ?_|refine zS ?_|refine zd (λhd=>?_) (λhd=>?_)|refine zl (λb=>?_) (λb=>?_))
   ·exact IQ
   ·exact I5
theorem eH6{g:FuncId}{c d:List V}{Q:Vc->Prop}(a:∀m,Sp g (vcV m:: [.fp c, .fp d]) (DB (Q m)))(l:List Vc)(b:l.length<=1000000):Sp 241 [.sl (l.map vcV), .fn g [.fp c, .fp d]] (I (fstI Q l)):=zsp Tryz.func241 (fB6 a l b)
theorem fB1{g:FuncId}{c d:List V}{Q:Vc->Prop}(a:∀m,Sp g (vcV m:: [.fp c, .fp d]) (DB (Q m)))(l:List Vc)(b:l.length<=1000000):fnVC T Tryz.prog Tryz.f199 [.sl (l.map vcV), .fn g [.fp c, .fp d]] (DB (∃m∈l,Q m)):=by
 repeat' ((conv=>whnf);first|refine zc (eH6 a l b) ?_|refine zS ?_|fail)
 exact MW
theorem eC1{g:FuncId}{c d:List V}{Q:Vc->Prop}(a:∀m,Sp g (vcV m:: [.fp c, .fp d]) (DB (Q m)))(l:List Vc)(b:l.length<=1000000):Sp 199 [.sl (l.map vcV), .fn g [.fp c, .fp d]] (DB (∃m∈l,Q m)):=zsp Tryz.func199 (fB1 a l b)
theorem dR4(b:Rg)(n:Int)(a:b.length<=1000000)(v:Vc):Sp 200 [vcV v, .fp [rgV b], .fp [I n]] (DB (¬fJ b v=n)):=by
 refine zsp Tryz.func200 ?_
 repeat' ((conv=>whnf);first|refine zc (cL0 b v a) ?_|refine zS ?_|fail)
 all_goals conv=>whnf
 all_goals refine aA (aF6 ?_)
 all_goals exact dY0
theorem tX(r b:Rg)(n:Int)(c:r.length<=1000000)(a:b.length<=1000000):Sp 149 [rgV r,rgV b,I n] (DB (pR r b n)):=by
 refine zsp Tryz.func149 ?_
 repeat' ((conv=>whnf);first|refine zc (eC1 (λv=>dR4 b n a v) r c) ?_|refine zS ?_|fail)
 all_goals conv=>whnf
 all_goals refine aA (aF6 ?_)
 rw[dW];unfold pR;constructor
 ·intro h v hv
  exact Qw
 ·rintro h ⟨v,hv,hn⟩
  exact hn (h v hv)
theorem aK9{r:Rg}(h:r.length<=1000000):(bF r).length<=1000000:=by
 unfold bF;split<;>simp;omega
theorem vS(a b:Rg)(i:a.length<=1000000)(g:b.length<=1000000):Sp 150 [rgV a,rgV b] (DB (uV a b)):=by
 refine zsp Tryz.func150 ?_;have e:=qE a i;have d:=qE b g
 have j:=aK9 i;have k:=aK9 g
 generalize hP:uV a b=P;have f:P↔uV a b:=GI;unfold uV at f;generalize bF a=A at*;generalize bF b=B at*
 repeat' ((conv=>whnf);first|refine zc e ?_|refine zS ?_|fail)
 refine aU (A:=List Sg) (B:=List Sg) (λD R=>mkSt [(1,rgV b),(10, .arr 10 0),(11,I A.length),(12,I D.length)] [] [(10,⟨0, .own,270,A.map sgV⟩)]) (λD R=>A=D++R/\∀x∈D,∀y∈B,dG x y=0) (λD R=>R.length) [] A ?_ ⟨rfl,Ae⟩ (λD R hp=>?_)
 ·exact II
 obtain⟨hp,hD⟩:=hp
 cases R with
 |nil=>
  have c:A.length=D.length:=Ad
  repeat' ((conv=>whnf);first|omega|refine zS ?_|refine zT ?_ ?_<;>intro _|fail)
  all_goals conv=>whnf
  refine aA (fE (f.2 ?_));rw[hp,QU];exact hD
 |cons x R=>
  have c:=aO hp
  repeat' ((conv=>whnf);first|omega|refine dS rfl rfl D6 ?_|refine aF (l:=A) (A:=D) (x:=x) (B:=R) hp Aa ?_|refine zc d ?_|refine zS ?_|refine zT ?_ ?_<;>intro _|fail)
  refine aU (A:=List Sg) (B:=List Sg) (λE S=>mkSt [(1,rgV b),(6, .box 6 0),(10, .arr 10 0),(11,I A.length),(12,I D.length),(17, .arr 17 0),(18,I B.length),(19,I E.length)] [(6,(sgV x).cells)] [(10,⟨0, .own,270,A.map sgV⟩),(17,⟨0, .own,270,B.map sgV⟩)]) (λE S=>B=E++S/\∀y∈E,dG x y=0) (λE S=>S.length) [] B ?_ ⟨rfl,Ae⟩ (λE S hq=>?_)
  ·exact II
  obtain⟨hq,hE⟩:=hq
  cases S with
  |nil=>exact MN
  |cons y S=>
   have hlen2:=aO hq
   repeat' ((conv=>whnf);first|omega|refine dS rfl rfl D7 ?_|refine aF (l:=B) (A:=E) (x:=y) (B:=S) hq Aa ?_|refine zc (aS9 x y) ?_|refine zS ?_|refine zT ?_ ?_<;>intro _|fail)
   all_goals conv=>whnf
   all_goals first
    |(refine aA (aC ?_);rw[f];intro h;exact absurd (h x Ad y Ap) Ag)
    |skip
   exact PU
theorem eE1{T:Tab}{σ:St}{x:ItC}{k:Option Nat}{Q:ItQ}{A B:Type}(st:A->B->St)(f:A->B->Option Nat)(inv:A->B->Prop)(m:A->B->Nat)(g:A)(d:B)(l:Le T σ (st g d))(o:inv g d)(n:f g d=k)(h:∀a b,inv a b->x (f a b) (st a b) λe i c=>match e with
 | .normal=>∃p':A×B,Le T c (st p'.1 p'.2)/\inv p'.1 p'.2/\f p'.1 p'.2=i/\m p'.1 p'.2<m a b
 |e=>Q e i c):bX4 T x k σ Q:=
 eD4 (A:=A×B) (λp=>st p.1 p.2) (λp=>f p.1 p.2) (λp=>inv p.1 p.2) (λp=>m p.1 p.2) (g,d) l o n (λp j=>h p.1 p.2 j)
def iI(s:Sh):List (List V):=(rings s).map λr=> [rgV r]
theorem eE3(s:Sh):(iI s)[0]? =some [rgV s.outer] :=rfl
theorem dK1{s:Sh}{D R:List Rg}{h:Rg}(a:s.holes=D++h::R):(iI s)[D.length+1]? =some [rgV h] :=by
 unfold iI rings;rw[Rk,RG,a];simp
theorem dD3(r:Rg):bM [rgV r] :=by
 refine aH.2 (λy a=>?_);rw[QI.1 a];unfold rgV;simp only[V.ok];exact aH.2 (λz b=>by obtain⟨v,_,rfl⟩:=QZ.1 b;simp[vcV,I,V.ok,V.okL])
theorem dW4(s:Sh)(d:s.holes.length<=1000000):itVC T Tryz.prog Tryz.f152 [.fp (shV s).cells] (iI s):=by
 intro l;have c:(iI s).length=s.holes.length+1:=by unfold iI rings;simp
 repeat' ((conv=>whnf);first|refine cD0 ?_|refine dE2 (eE3 s) (dD3 _) ?_ ?_|refine zS ?_|fail)
 all_goals conv=>whnf
 all_goals first
  |exact trivial
  |skip
 refine eE1 (A:=List Rg) (B:=List Rg) (λD R=>mkSt [(0, .lit (.func (.yield l) ⟨[]⟩ ⟨[]⟩)),(1, .fp (shV s).cells),(11, .sl (s.holes.map rgV)),(12,I s.holes.length),(13,I D.length)] [] []) (λD R=>some (D.length+1)) (λD R=>s.holes=D++R) (λD R=>R.length) [] s.holes ?_ rfl rfl (λD R hp=>?_)
 ·exact IE
 have b:(s.holes.map rgV).length=s.holes.length:=Ae
 cases R with
 |nil=>
  have a:s.holes.length=D.length:=Ad
  repeat' ((conv=>whnf);first|(exfalso;omega)|refine cD0 ?_|refine zT ?_ ?_<;>intro _|refine zS ?_|fail)
  all_goals conv=>whnf
  show D.length+1=(iI s).length;omega
 |cons h R=>
  have a:=aO hp
  repeat' ((conv=>whnf);first|(exfalso;omega)|refine cD0 ?_|refine dE2 (dK1 hp) (dD3 _) ?_ ?_|refine zS ?_|refine zT ?_ ?_<;>intro _|fail)
  all_goals conv=>whnf
  all_goals first
   |exact trivial
   |skip
  refine⟨(D++[h],R),?_,Ad,Ae,Ae⟩;exact MQ
theorem vJ(s:Sh)(a:s.holes.length<=1000000):aB0 T Tryz.prog 152 [.fp (shV s).cells] (iI s):=
 dZ5 uG mixed Tryz.func152 Ac (TB Ac) Ac (dW4 s a)
theorem rQ(s:Sh):Sp 111 [shV s] (.fn 152 [.fp (shV s).cells]):=by
 refine zsp Tryz.func111 ?_
 repeat' ((conv=>whnf);first|refine zS ?_|fail)
 all_goals conv=>whnf
 exact⟨by(repeat' (first|exact trivial|refine And.intro ?_ ?_|with_reducible rfl|exact(λh=>Ah)|exact rfl));done,rfl,λrs h=>V.noConfusion h⟩
theorem aM3{T:Tab}{P:Program}{σ:St}{f:Operand}{g:FuncId}{d:List V}{q o:List Nat}{x y:aA2}{Q:Exit->St->Prop}(c:List (List V))(s:aB0 T P g d c)(v:∀l∈c,l.length=q.length){A B:Type}(st:A->B->St)(inv:Nat->A->B->Prop)(n:A)(m:B)
 (t:Le T σ (st n m))(z:inv 0 n m)(u:(st n m).ev f= .fn g d)(h:∀k a b l,inv k a b->c[k]? =some l->x ⟨cM2 q l (st a b).env,(st a b).bx,(st a b).ar⟩ λe r=>match e with
  | .normal=>y r λe j=>match e with
    | .normal=>∃p':A×B,Le T (sJ o j) (st p'.1 p'.2)/\inv (k+1) p'.1 p'.2
    | .ret=>Q .ret (sJ o j)
    | .exit i=>Q (.exit i) (sJ o j)
    |_=>False
  |_=>False)(w:∀a b,inv c.length a b->Q .normal (st a b)):aO0 T P f g d q o x y σ Q:=
 eS1 c s v (A:=A×B) (λp=>st p.1 p.2) (λk p=>inv k p.1 p.2) (n,m) t z u (λk p l=>h k p.1 p.2 l) (λp=>w p.1 p.2)
theorem idx_eq{a:Type}{f:a->V}{xs:List V}{l A B:List a}{x:a}{i:Nat}{K:V->Prop}(c:xs=l.map f)(h:l=A++x::B)(hi:i=A.length)(b:K (f x)):idx xs i K:=by
 subst c;exact aF h hi b
def gV(s:Sh):Prop:=s.outer.length<=1000000/\s.holes.length<=1000000/\∀h∈s.holes,h.length<=1000000
theorem gV.mem{s:Sh}(h:gV s){r:Rg}(hr:r∈rings s):r.length<=1000000:=by
 exact PX
theorem vC(s:Sh):∀a∈iI s,a.length=1:=λa h=>by
 obtain⟨r,_,rfl⟩:=QZ.1 h;rfl
theorem aE4{s:Sh}{D R:List Rg}{a:List V}(b:rings s=D++R)(h:(iI s)[D.length]? =some a):∃r R',R=r::R'/\a=[rgV r] :=by
 unfold iI at h;rw[b,Rk]at h;cases R<;>simp_all
theorem aN4(D:List Rg)(r:Rg):corners (D++[r])=corners D+r.length:=Gw
theorem zF9{D:List Rg}(h:∀r∈D,dM r):corners D<=40*D.length:=by
 induction D with
 |nil=>simp[corners]
 |cons d D a=>
  have b:=(h d Ae).2.1;grind [QM,corners]
def Fits(s:Sh):Prop:=s.outer.length<=9223372036854775807/\s.holes.length<=1000000/\∀h∈s.holes,h.length<=9223372036854775807
theorem Fits.mem{s:Sh}(h:Fits s){r:Rg}(hr:r∈rings s):r.length<=9223372036854775807:=by
 exact PX
theorem gV.fits{s:Sh}(h:gV s):Fits s:=⟨by have:=h.1;omega,h.2.1,λr a=>by have:=h.2.2 r a;omega⟩
theorem cA2(r:Rg)(c:r.length<=9223372036854775807):Sp 148 [rgV r] (DB (dM r)):=by
 by_cases h:r.length<=1000000
 ·exact lN r h
 ·have e:DB (dM r)= .lit (.bool false):=Rh (λb=>V.lit (.bool b)) (dW.2 (λq=>by have:=q.2.1;omega))
  rw[e];refine zsp Tryz.func148 ?_;have a:(r.map vcV).length=r.length:=Ae;exact NK
theorem wQ(s:Sh)(V:Fits s):Sp 109 [shV s] (DB (bG s)):=by
 refine zsp Tryz.func109 ?_;have Q:(s.holes.map rgV).length=s.holes.length:=Ae;generalize hP:bG s=P;have hr:P↔bG s:=GI
 unfold bG at hr
 repeat' ((conv=>whnf);first|refine zc (rQ s) ?_|refine zS ?_|refine zT ?_ ?_<;>intro _|fail)
 all_goals conv=>whnf
 all_goals first
  |(refine aA (aC ?_);rw[hr];intro h;obtain⟨h1,h2,L,G⟩:=h;first|omega|contradiction)
  |skip
 have U:s.holes.length<=6:=Aa
 refine aM3 (iI s) (vJ s Aa) (vC s) (A:=List Rg) (B:=List Rg) (λD R=>mkSt [(1, .box 1 0),(2, .box 2 0),(3, .box 3 0),(14, .fn 152 [.fp (shV s).cells])] [(1,(shV s).cells),(2,[.lit (.bool false)]),(3,[I (corners D)])] [])
  (λk D R=>rings s=D++R/\D.length=k/\∀r∈D,dM r) [] (rings s) ?_ ⟨rfl,rfl,Ae⟩ rfl ?_ ?_
 ·exact zj
 ·rintro k D R it ⟨hp,n,i⟩ F
  subst n;obtain⟨r,R',rfl,rfl⟩:=aE4 hp F;have d:=aO hp;have t:(rings s).length=s.holes.length+1:=AQ
  have C:r.length<=9223372036854775807:=V.mem Ad;have N:=zF9 i
  have v:(r.map vcV).length=r.length:=Ae;have O:((corners (D++[r]):Nat):Int)=(corners D:Int)+((r.map vcV).length:Nat):=by rw[aN4,v];simp
  have J:=cA2 r C;rcases Ry 40 r.length with H|T
  ·have Y:¬dM r:=λh=>by have:=h.2.1;omega
   repeat' ((conv=>whnf);first|(exfalso;contradiction)|refine zc J ?_|refine zS ?_|refine zT ?_ ?_<;>intro _|fail)
   all_goals conv=>whnf
   refine aA (aC ?_);rw[hr];intro h;exact absurd (h.2.1 r Ad) Ag
  ·repeat' ((conv=>whnf);first|refine zc J ?_|refine zS ?_|refine zT ?_ ?_<;>intro _|fail)
   all_goals conv=>whnf
   ·refine⟨(D++[r],R'),?_,Ad,Ae,λq hq=>?_⟩
    ·simp only[O]
     exact zj
    ·rcases QJ.1 hq with hq|hq
     ·exact i q hq
     ·rw[QI.1 hq];assumption
   ·refine aA (aC ?_)
    rw[hr];intro h;exact absurd (h.2.1 r Ad) Ag
 ·rintro D R ⟨hp,n,i⟩
  have o:R=[] :=Je;subst o;rw[QU]at hp;subst hp;clear n;have t:(rings s).length=s.holes.length+1:=AQ
  have N:=zF9 i
  repeat' ((conv=>whnf);first|refine zS ?_|refine zT ?_ ?_<;>intro _|fail)
  all_goals conv=>whnf
  all_goals first
   |(refine aA (aC ?_);rw[hr];intro h;obtain⟨h1,h2,L,G⟩:=h;first|omega|contradiction)
   |skip
  have g:∀r∈rings s,r.length<=40:=λr hr=>(i r hr).2.1;have c:gV s:=⟨by have:=g s.outer AQ;omega,Aa,λr hr=>by have:=g r Df;omega⟩
  clear g;have m:corners (rings s)<=80:=Aa;have u:P↔qR s.outer [] s.holes:=hr.trans ⟨λh=>h.2.2.2,λh=>⟨U,i,m,h⟩⟩
  refine aU (A:=List Rg) (B:=List Rg) (λD R=>mkSt [(1, .box 1 0),(2, .box 2 0),(26, .sl (s.holes.map rgV)),(27,I s.holes.length),(28,I D.length)] [(1,(shV s).cells),(2,[.lit (.bool false)])] []) (λD R=>s.holes=D++R/\(P↔qR s.outer D R)) (λD R=>R.length) [] s.holes ?_ ⟨rfl,u⟩ (λD R hp=>?_)
  ·exact IE
  obtain⟨hp,a⟩:=hp
  cases R with
  |nil=>
   have d:s.holes.length=D.length:=Ad
   repeat' ((conv=>whnf);first|omega|refine zS ?_|refine zT ?_ ?_<;>intro _|fail)
   all_goals conv=>whnf
   exact aA (fE (a.2 trivial))
  |cons h R=>
   have d:=aO hp;have b:h.length<=1000000:=c.2.2 h Ad
   rw[qR]at a;unfold cU0 at a;have w:((s.holes.map rgV).take ((D.length:Nat):Int).toNat)=D.map rgV:=by rw[RP,hp];simp
   repeat' ((conv=>whnf);first|omega|refine aF (l:=s.holes) (A:=D) (x:=h) (B:=R) hp Aa ?_|refine zc (tX h s.outer 2 b c.1) ?_|refine zc (vS h s.outer b c.1) ?_|refine fU ⟨Aa,Aa,Aa, .inl rfl⟩ ?_|refine zS ?_|refine zT ?_ ?_<;>intro _|fail)
   all_goals conv=>whnf
   all_goals first
    |(refine aA (aC ?_);rw[a];intro h;obtain⟨⟨h1,h2,L⟩,G⟩:=h;contradiction)
    |skip
   refine aU (A:=List Rg) (B:=List Rg) (λE S=>mkSt [(1, .box 1 0),(2, .box 2 0),(6,rgV h),(26, .sl (s.holes.map rgV)),(27,I s.holes.length),(28,I D.length),(48, .sl (List.drop (Int.toNat 0) (List.take ((D.length:Nat):Int).toNat (List.map rgV s.holes)))),(49,I (List.drop (Int.toNat 0) (List.take ((D.length:Nat):Int).toNat (List.map rgV s.holes))).length),(50,I E.length)] [(1,(shV s).cells),(2,[.lit (.bool false)])] []) (λE S=>D=E++S/\∀k∈E,uV h k/\pR h k 0/\pR k h 0) (λE S=>S.length) [] D ?_ ⟨rfl,Ae⟩ (λE S hq=>?_)
   ·exact zj
   obtain⟨hq,K⟩:=hq;have M:(List.drop (Int.toNat 0) (List.take ((D.length:Nat):Int).toNat (List.map rgV s.holes)))=D.map rgV:=w;have X:(List.drop (Int.toNat 0) (List.take ((D.length:Nat):Int).toNat (List.map rgV s.holes))).length=D.length:=by rw[M,QS]
   cases S with
   |nil=>
    have e:D.length=E.length:=Ap;have y:D=E:=Ap
    repeat' ((conv=>whnf);first|omega|refine zS ?_|refine zT ?_ ?_<;>intro _|fail)
    all_goals conv=>whnf
    refine⟨(D++[h],R),?_,⟨Ad,?_⟩,Ae⟩
    ·exact I8
    ·rw[a]
     exact⟨λq=>q.2,λq=>⟨⟨Ag,Ag,by rw[y];exact K⟩,q⟩⟩
   |cons k S=>
    have e:=aO hq;have f:k.length<=1000000:=c.2.2 k HY
    repeat' ((conv=>whnf);first|omega|refine idx_eq (l:=D) (A:=E) (x:=k) (B:=S) M hq Aa ?_|refine zc (vS h k b f) ?_|refine zc (tX h k 0 b f) ?_|refine zc (tX k h 0 f b) ?_|refine zS ?_|refine zT ?_ ?_<;>intro _|fail)
    all_goals conv=>whnf
    all_goals first
     |(refine aA (aC ?_);rw[a];intro q;have W:=q.1.2.2 k Ap;obtain⟨q2,Z,q4⟩:=W;contradiction)
     |skip
    refine⟨(E++[k],S),?_,⟨Ap,λz j=>?_⟩,Ae⟩
    ·exact I8
    ·rcases QJ.1 j with j|j
     ·exact K z j
     ·rw[QI.1 j]
      exact⟨Ag,Ag,Ag⟩
theorem kK(s:Sh)(a:gV s):Sp 109 [shV s] (DB (bG s)):=wQ s a.fits
theorem eI3{s:Sh}(h:bG s):uK s=qH (W (2*nG s.outer)) (rings s):=Q9 h
theorem eC2{s:Sh}(h:¬bG s):uK s=0:=Q5 h
theorem dS3(n:Int)(D:List Rg)(r:Rg):qH n (D++[r])=W (qH n D-nG r):=by unfold qH;rw[Tz];rfl
theorem cG8(s:Sh)(a:gV s):Sp 69 [shV s] (I (uK s)):=by
 refine zsp Tryz.func69 ?_;have h1:=eI3 (s:=s);have h2:=eC2 (s:=s)
 generalize uK s=A at*;have j:s.outer.length<=1000000:=a.1
 repeat' ((conv=>whnf);first|refine zc (kK s a) ?_|refine zc (aX1 s.outer a.1) ?_|refine zc (rQ s) ?_|refine zg ?_|refine zw ?_|refine zn ?_|refine zz (λ_=>?_) λ_=>?_|refine zr ?_)
 all_goals conv=>whnf
 all_goals first
  |exact aG (h2 Ag).symm
  |skip
 have f:=h1 Ag
 refine aM3 (iI s) (vJ s a.2.1) (vC s) (A:=List Rg) (B:=List Rg) (λD R=>mkSt [(1, .box 1 0),(3, .box 3 0),(13, .fn 152 [.fp (shV s).cells])] [(1,(shV s).cells),(3,[I (qH (W (2*nG s.outer)) D)])] [])
  (λk D R=>rings s=D++R/\D.length=k) [] (rings s) ?_ ⟨rfl,rfl⟩ rfl ?_ ?_
 ·exact zj
 ·rintro k D R i ⟨hp,e⟩ d
  subst e;obtain⟨r,R',rfl,rfl⟩:=aE4 hp d;have c:r.length<=1000000:=a.mem Ad;have es:=dS3 (W (2*nG s.outer)) D r
  generalize W (2*nG s.outer)=g at*
  repeat' ((conv=>whnf);first|refine zc (aX1 r c) ?_|refine zi ?_|refine zw ?_)
  all_goals conv=>whnf
  refine⟨(D++[r],R'),?_,Ad,Ae⟩;simp only[es];exact zj
 ·rintro D R ⟨hp,e⟩
  have b:R=[] :=Je;subst b;rw[QU]at hp;subst hp;generalize W (2*nG s.outer)=g at*
  repeat' ((conv=>whnf);first|refine zS ?_|fail)
  all_goals conv=>whnf
  exact aG f.symm
theorem dP7{s:Sh}{p:Pt}(h:¬bG s):qW s p=0:=Q5 h
theorem bQ2{s:Sh}{p:Pt}(h:bG s)(a:¬iF s.outer p=2):qW s p=iF s.outer p:=by unfold qW;rw[Q9 h,Q5 a]
theorem bP9{s:Sh}{p:Pt}(h:bG s)(a:iF s.outer p=2):qW s p=qG 2 p s.holes:=by unfold qW;rw[Q9 h,Q9 a]
theorem dX1{o:Int}{p:Pt}{h:Rg}{l:List Rg}(q:iF h p=2):qG o p (h::l)=0:=by rw[qG,Q9 q]
theorem eB4{o:Int}{p:Pt}{h:Rg}{l:List Rg}(q:iF h p=1):qG o p (h::l)=1:=by rw[qG,Q5 (by omega),Q9 q]
theorem dW5{o:Int}{p:Pt}{h:Rg}{l:List Rg}(q:¬iF h p=2)(a:¬iF h p=1):qG o p (h::l)=qG o p l:=by rw[qG,Q5 q,Q5 a]
theorem cA8(s:Sh)(p:Pt)(b:gV s):Sp 340 [shV s,ptV p] (I (qW s p)):=by
 refine zsp Tryz.func340 ?_;have r:=dP7 (s:=s) (p:=p);have q:=bQ2 (s:=s) (p:=p)
 have i:=bP9 (s:=s) (p:=p);have t:=aB7 s.outer p b.1
 have k:(s.holes.map rgV).length=s.holes.length:=Ae;have g:=b.2.1
 generalize qW s p=A at*;generalize iF s.outer p=m at*
 repeat' ((conv=>whnf);first|refine zc (kK s b) ?_|refine zS ?_|refine zT ?_ ?_<;>intro _|fail)
 all_goals conv=>whnf
 all_goals first
  |exact aG (r Ag).symm
  |exact aG (q Ag Ag).symm
  |skip
 have c:=i Ag Ag;refine aU (A:=List Rg) (B:=List Rg) (λD R=>mkSt [(3, .box 3 0),(5,I m),(19, .sl (s.holes.map rgV)),(20,I s.holes.length),(21,I D.length)] [(3,(ptV p).cells)] []) (λD R=>s.holes=D++R/\A=qG 2 p R) (λD R=>R.length) [] s.holes ?_ ⟨rfl,c⟩ (λD R hp=>?_)
 ·exact IE
 obtain⟨hp,c⟩:=hp
 cases R with
 |nil=>
  have a:s.holes.length=D.length:=Ad
  repeat' ((conv=>whnf);first|omega|refine zS ?_|refine zT ?_ ?_<;>intro _|fail)
  all_goals conv=>whnf
  exact aG (by rw[c];show _=(2:Int);omega)
 |cons h R=>
  have a:=aO hp;have n:h.length<=1000000:=b.2.2 h Ad
  have d:=dX1 (o:=2) (p:=p) (h:=h) (l:=R);have e:=eB4 (o:=2) (p:=p) (h:=h) (l:=R)
  have f:=dW5 (o:=2) (p:=p) (h:=h) (l:=R);have j:=aB7 h p n
  rw[<-c]at f e d;generalize iF h p=wh at*
  repeat' ((conv=>whnf);first|omega|refine zS ?_|refine zT ?_ ?_<;>intro _|fail)
  all_goals conv=>whnf
  all_goals first
   |exact aG (d Ag).symm
   |exact aG (e Ag).symm
   |skip
  refine⟨(D++[h],R),?_,⟨Ad,f Ag Ag⟩,Ae⟩;exact MQ
theorem cO2{s:Sh}{v:Vc}(h:within v 4000):lJ s v=qW s (v.1,v.2,1):=Q9 h
theorem eC0{s:Sh}{v:Vc}(h:¬within v 4000):lJ s v=0:=Q5 h
theorem aD4(s:Sh)(v:Vc)(a:gV s):Sp 304 [shV s,vcV v] (I (lJ s v)):=by
 refine zsp Tryz.func304 ?_;have c:=cO2 (s:=s) (v:=v);have b:=eC0 (s:=s) (v:=v)
 generalize lJ s v=A at*
 repeat' ((conv=>whnf);first|refine zc (kC v 4000) ?_|refine zc (zN v) ?_|refine zc (cA8 s (v.1,v.2,1) a) ?_|refine zS ?_|refine zT ?_ ?_<;>intro _|fail)
 all_goals conv=>whnf
 all_goals first
  |exact aG (b Ag).symm
  |exact aG (c Ag).symm
open Classical in
def boxS(s:Sh):Bx×Bool:=if bG s then boxR s.outer else(((0,0),(0,0)),false)
theorem eG7{s:Sh}(h:bG s):boxS s=boxR s.outer:=Q9 h
theorem eW5{s:Sh}(h:¬bG s):boxS s=(((0,0),(0,0)),false):=Q5 h
theorem aS0(s:Sh)(b:gV s):Sp 156 [shV s] (.tup [bxV (boxS s).1, .lit (.bool (boxS s).2)]):=by
 refine zsp Tryz.func156 ?_;have d:=eG7 (s:=s);have c:=eW5 (s:=s)
 have e:=dL2 s.outer b.1;generalize boxS s=A at*;generalize boxR s.outer=B at*
 repeat' ((conv=>whnf);first|refine zc (kK s b) ?_|refine zS ?_|refine zd (λa=>?_) (λa=>?_))
 ·rw[d a]
  all_goals exact zE
 ·rw[c a]
  all_goals exact zE
theorem gX{xs:List V}{a size:Nat}{K:Prop}(b:a<=10000)(e:∀x∈xs,x.cells.length=size)(c:xs.length<=1000000000)(d:K):need (xs.length*a<=140737488355328/\xs.length<=140737488355328/\∀x∈xs,x.cells.length=size) K:=by
 have:=U5 c b;exact fU ⟨Aa,Aa,e⟩ d
def d0(D:List Rg)(r:Rg):List Rg:=D++[r]
def edgSt(s:Sh)(D:List Rg):St:=match D with
 | [] =>mkSt [(1, .box 1 0),(3, .box 3 0),(6, .fn 152 [.fp (shV s).cells])] [(1,(shV s).cells),(3,[nilV])] []
 |d::D=>mkSt [(1, .box 1 0),(3, .box 3 0),(6, .fn 152 [.fp (shV s).cells])] [(1,(shV s).cells),(3,[.arr 11 D.length])] [(11,⟨D.length, .own,270,((d::D).flatMap bF).map sgV⟩)]
theorem aX0(l:List Sg):∀y∈l.map sgV,y.cells.length=4:=λy hy=>AX
theorem cM5{r:Rg}(h:r.length<=1000000):((bF r).map sgV).length<=1000000:=by rw[QS];exact aK9 h
theorem bC1{s:Sh}(d:gV s)(i:s.holes.length<=6){D R:List Rg}(hp:rings s=D++R):(D.flatMap bF).length<=7000000:=by
 have g:∀(E:List Rg),(∀r∈E,(bF r).length<=1000000)->(E.flatMap bF).length<=1000000*E.length:=by
  intro E
  induction E with
  |nil=>intro _;simp
  |cons e E f=>
   intro h;have a:=h e Ae;have b:=f (λr c=>h r (by simp[c]))
   rw[RZ,QG,QM];omega
 have l:=g D (λr c=>aK9 (d.mem (by rw[hp];simp[c])))
 have j:(rings s).length=D.length+R.length:=Ad;have k:(rings s).length=s.holes.length+1:=AQ
 omega
theorem aV8(s:Sh)(c:gV s)(j:s.holes.length<=6):Sp 300 [shV s] (.own 270 ((aC0 s).map sgV)):=by
 refine zsp Tryz.func300 ?_
 repeat' ((conv=>whnf);first|refine zc (rQ s) ?_|refine zS ?_|fail)
 all_goals conv=>whnf
 refine aM3 (iI s) (vJ s c.2.1) (vC s) (A:=List Rg) (B:=List Rg) (λD R=>edgSt s D)
  (λk D R=>rings s=D++R/\D.length=k) [] (rings s) ?_ ⟨rfl,rfl⟩ rfl ?_ ?_
 ·exact zj
 ·rintro k D R n ⟨hp,g⟩ f
  subst g;obtain⟨r,R',rfl,rfl⟩:=aE4 hp f;have a:r.length<=1000000:=c.mem Ad;have l:=bC1 c j hp
  have i:=cM5 a;have e:(((d0 D r:List Rg).flatMap bF).map sgV)=(D.flatMap bF).map sgV++(bF r).map sgV:=by unfold d0;simp
  cases D with
  |nil=>
   repeat' ((conv=>whnf);first|refine zc (qE r a) ?_|refine gX (QC rfl) (aX0 _) (show((bF r).map sgV).length<=1000000000 from Aa) ?_|refine zS ?_|fail)
   all_goals conv=>whnf
   refine⟨([r],R'),?_,by rw[hp];rfl,rfl⟩
   show Le T _ (mkSt [(1, .box 1 0),(3, .box 3 0),(6, .fn 152 [.fp (shV s).cells])] [(1,(shV s).cells),(3,[.arr 11 0])] [(11,⟨0, .own,270,(([r] :List Rg).flatMap bF).map sgV⟩)]);rw[show([r] :List Rg).flatMap bF=bF r from Ae];exact zj
  |cons d D=>
   have m:(((d::D).flatMap bF).map sgV).length=((d::D).flatMap bF).length:=QS ..
   repeat' ((conv=>whnf);first|refine zc (qE r a) ?_|refine iH rfl (.inl rfl) rfl (QC rfl) (aX0 _) (show(((d::D).flatMap bF).map sgV).length+((bF r).map sgV).length<=1000000000 from Aa) ?_|refine zS ?_|fail)
   all_goals conv=>whnf
   refine⟨(d::D++[r],R'),?_,Ad,Ae⟩;show Le T _ (mkSt [(1, .box 1 0),(3, .box 3 0),(6, .fn 152 [.fp (shV s).cells])] [(1,(shV s).cells),(3,[.arr 11 (D++[r]).length])] [(11,⟨(D++[r]).length, .own,270,(((d::D)++[r]).flatMap bF).map sgV⟩)]);rw[show((d::D)++[r])=d0 (d::D) r from rfl,e,QG,QK];exact zj
 ·rintro D R ⟨hp,g⟩
  have b:R=[] :=Je;subst b;rw[QU]at hp;unfold aC0;exact Qo
end Go.Proofs.Led
