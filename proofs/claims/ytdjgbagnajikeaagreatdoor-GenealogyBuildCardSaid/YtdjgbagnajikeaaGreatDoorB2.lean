/-
  Rings: corners, area, edges, walked.
-/
import Derived.Test.YtdjgbagnajikeaaGreatDoorSV4
import Derived.Shelf.Spec.SlicesGrow
set_option linter.unusedVariables false
set_option linter.unusedSimpArgs false
set_option maxRecDepth 100000
set_option maxHeartbeats 4000000
noncomputable section
namespace Go.Proofs.Led
open Go Go.Proofs Go.Ab
theorem fB5{g:FuncId}{Q:Vc->Prop}(hg:∀m,Sp g (vcV m:: []) (DB (Q m)))(l:List Vc)(b:l.length<=1000000):fnVC T Tryz.prog Tryz.f285 [.sl (l.map vcV), .fn g []] (I (fstI Q l)):=by
 have a:(l.map vcV).length=l.length:=Af
 repeat' ((conv=>whnf);first|refine zS ?_|fail)
 refine aU (A:=List Vc) (B:=List Vc) (λD R=>mkSt [(0, .sl (l.map vcV)),(1, .fn g []),(7,I l.length),(8,I D.length)] [] [])
  (λD R=>l=D++R/\∀m∈D,¬Q m) (λD R=>R.length) [] l ?_ ⟨rfl,Af⟩ (λD R hp=>?_)
 ·exact zj
 ·exact I9
theorem eI1{g:FuncId}{Q:Vc->Prop}(a:∀m,Sp g (vcV m:: []) (DB (Q m)))(l:List Vc)(b:l.length<=1000000):Sp 285 [.sl (l.map vcV), .fn g []] (I (fstI Q l)):=zsp Tryz.func285 (fB5 a l b)
theorem fC1{g:FuncId}{Q:Vc->Prop}(a:∀m,Sp g (vcV m:: []) (DB (Q m)))(l:List Vc)(b:l.length<=1000000):fnVC T Tryz.prog Tryz.f236 [.sl (l.map vcV), .fn g []] (DB (∃m∈l,Q m)):=by
 repeat' ((conv=>whnf);first|refine zc (eI1 a l b) ?_|refine zS ?_|fail)
 exact Nq
theorem dV4{g:FuncId}{Q:Vc->Prop}(a:∀m,Sp g (vcV m:: []) (DB (Q m)))(l:List Vc)(b:l.length<=1000000):Sp 236 [.sl (l.map vcV), .fn g []] (DB (∃m∈l,Q m)):=zsp Tryz.func236 (fC1 a l b)
theorem aS9(s t:Sg):Sp 198 [sgV s,sgV t] (I (dG s t)):=by
 refine zsp Tryz.func198 ?_
 repeat' ((conv=>whnf);first|refine zc (cU7 s t) ?_|refine zS ?_|fail)
 all_goals exact zE
theorem eD9(v:Vc):Sp 237 [vcV v] (DB (¬within v 2000)):=by
 refine zsp Tryz.func237 ?_
 repeat' ((conv=>whnf);first|refine zc (kC v 2000) ?_|refine zS ?_|fail)
 all_goals conv=>whnf
 all_goals refine aA (aF6 dW)
theorem dS7(r:Rg)(a:r.length<=1000000):Sp 193 [rgV r] (DB (bR7 r)):=by
 refine zsp Tryz.func193 ?_
 repeat' ((conv=>whnf);first|refine zc (dV4 (λv=>eD9 v) r a) ?_|refine zS ?_|fail)
 all_goals conv=>whnf
 all_goals refine aA (aF6 ?_)
 rw[dW];unfold bR7;constructor
 ·intro h v hv
  exact QG
 ·rintro h ⟨v,hv,hn⟩
  exact hn (h v hv)
theorem dX5{z:Int}{a n:Nat}(h:z=(a:Int)):z.tmod (n:Int)=((a% n:Nat):Int):=by
 grind
theorem getD_some{r:Rg}{k:Nat}(h:k<r.length):r[k]? =some (r.getD k z0):=by
 simp_all
theorem sW{r:Rg}{z:Int}{k:Nat}{K:V->Prop}(b:z=(k:Int))(h:k<r.length)(a:K (vcV (r.getD k z0))):idx (r.map vcV) z.toNat K:=
 gK (l:=r) (getD_some h) Aa a
theorem kS{r:Rg}{z:Int}{a:Nat}(h:z=(a:Int)):z.tmod ((r.map vcV).length:Int)=((a% r.length:Nat):Int):=by rw[eT0,dX5 h]
theorem aR7(r:Rg)(i:Nat)(hi:i<r.length)(d:r.length<=1000000):Sp 196 [rgV r,I i] (vcV (iU r i)):=by
 refine zsp Tryz.func196 ?_;have b:(r.map vcV).length=r.length:=Af;have c:(i+1)% r.length<r.length:=SA _ Aa
 repeat' ((conv=>whnf);first|refine uM Aa ?_|refine aB (l:=r) (by rw[kS (a:=i+1) (by omega)];omega) ?_|refine sW (k:=(i+1)% r.length) (kS Aa) c ?_|refine zS ?_|fail)
 all_goals exact zE
theorem dJ5(r:Rg)(i:Nat)(hi:i<r.length)(d:r.length<=1000000):Sp 195 [rgV r,I i] (vcV (mY r i)):=by
 refine zsp Tryz.func195 ?_;have b:(r.map vcV).length=r.length:=Af;have c:(i+r.length-1)% r.length<r.length:=SA _ Aa
 repeat' ((conv=>whnf);first|refine uM Aa ?_|refine aB (l:=r) (by rw[kS (a:=i+r.length-1) (by omega)];omega) ?_|refine sW (k:=(i+r.length-1)% r.length) (kS Aa) c ?_|refine zS ?_|fail)
 all_goals exact zE
theorem aU3{r:Rg}{z:Int}{k:Nat}{K:V->Prop}(b:z=(k:Int))(h:k<r.length)(a:K (vcV (r.getD k z0))):idx (r.map vcV) z.toNat K:=sW b h a
theorem bT2(r:Rg)(b:r.length<=1000000):Sp 151 [rgV r] (I (zY r)):=by
 refine zsp Tryz.func151 ?_;have c:(r.map vcV).length=r.length:=Af
 repeat' ((conv=>whnf);first|refine zS ?_|fail)
 refine lD (A:=Nat) (λk=>mkSt [(0,rgV r),(3,I (cI8 r k)),(6,rgV r),(7,I r.length),(8,I k)] [] []) (λk=>k<=r.length) (λk=>r.length-k) 0 ?_ Aa (λk g=>?_)
 ·exact zj
 have d:=aR7 r k;have f:=bC2 r k
 by_cases a:k<r.length
 ·repeat' ((conv=>whnf);first|omega|refine aU3 (k:=k) Aa a ?_|refine zc (d a b) ?_|refine zc (kD (r.getD k z0) (iU r k)) ?_|refine zS ?_|refine zT ?_ ?_<;>intro _|fail)
  all_goals conv=>whnf
  refine⟨k+1,?_,Aa,Aa⟩;simp only[f];exact zj
 ·have e:k=r.length:=by omega
  subst e;exact zF
def aH8(r:Rg)(k:Nat):List Sg:=(List.range k).map (aJ4 r)
theorem cS0(r:Rg)(k:Nat):(aH8 r k).map sgV++[sgV (aJ4 r k)] =(aH8 r (k+1)).map sgV:=by unfold aH8;rw[List.range_succ];simp
theorem bV5(r:Rg)(k:Nat):((aH8 r k).map sgV).length=k:=by unfold aH8;simp
def eX7(r:Rg)(k:Nat):St:=match k with
 |0=>mkSt [(0,rgV r),(3,nilV),(9,rgV r),(10,I r.length),(11,I 0)] [] []
 |k+1=>mkSt [(0,rgV r),(3, .arr 23 k),(9,rgV r),(10,I r.length),(11,I ((k:Int)+1))] [] [(23,⟨k, .own,270,(aH8 r (k+1)).map sgV⟩)]
theorem cK3{r:Rg}(h:r.length<2):bF r=[] :=QO h
theorem bA9{r:Rg}(h:¬r.length<2):bF r=aH8 r r.length:=Q5 h
theorem qE(r:Rg)(c:r.length<=1000000):Sp 197 [rgV r] (.own 270 ((bF r).map sgV)):=by
 refine zsp Tryz.func197 ?_;have j:(r.map vcV).length=r.length:=Af;have h1:=cK3 (r:=r)
 have g:=bA9 (r:=r);by_cases hr:r.length<2
 ·exact JV
 rw[g hr]
 repeat' ((conv=>whnf);first|omega|refine zS ?_|refine zT ?_ ?_<;>intro _|fail)
 refine lD (A:=Nat) (eX7 r) (λk=>k<=r.length) (λk=>r.length-k) 0 ?_ Aa (λk m=>?_)
 ·exact zj
 have f:=aR7 r k;have l:=cS0 r k
 have d:=bV5 r k
 match k with
 |0=>
  repeat' ((conv=>whnf);first|omega|refine aU3 (k:=0) Aa Aa ?_|refine zc (f Aa c) ?_|refine fU ⟨Q9 Ac,Q9 Ac,dA rfl⟩ ?_|refine zS ?_|refine zT ?_ ?_<;>intro _|fail)
  all_goals conv=>whnf
  refine⟨1,?_,Aa,Aa⟩;exact zj
 |k+1=>
  have b:=bV5 r (k+1);have i:(List.map sgV (aH8 r (k+1))).length+1<=1000000000:=Aa
  by_cases a:k+1<r.length
  ·repeat' ((conv=>whnf);first|omega|refine aU3 (k:=k+1) Aa a ?_|refine zc (f a c) ?_|refine iH rfl (.inl rfl) rfl (Q9 rfl) (dA rfl) i ?_|refine zS ?_|refine zT ?_ ?_<;>intro _|fail)
   all_goals conv=>whnf
   refine⟨k+2,?_,Aa,Aa⟩;show Le T _ (mkSt [(0,rgV r),(3, .arr 23 (k+1)),(9,rgV r),(10,I r.length),(11,I (((k+1:Nat):Int)+1))] [] [(23,⟨k+1, .own,270,(aH8 r (k+1+1)).map sgV⟩)]);rw[<-l];exact zj
  ·exact JL
theorem dT0{r:Rg}(h:2<=r.length):(bF r).length=r.length:=by
 rw[bA9 Aa];simp[aH8]
theorem dS{en:AE}{g:Nat}{z:Int}{K:Prop}(b:en.gen=g)(c:en.kind= .own)(a:0<=z/\z<en.l.length)(d:K):need (en.gen=g/\en.kind≠ .dead/\0<=z/\z<en.l.length) K:=fU ⟨b,(by rw[c];exact λh=>by cases h),a.1,a.2⟩ d
theorem dV6{l:List Sg}{z:Int}{k:Nat}{K:V->Prop}(b:z=(k:Int))(h:k<l.length)(a:K (sgV (l.getD k (z0,z0)))):idx (l.map sgV) z.toNat K:=by
 subst b;refine gK (l:=l) (j:=k) (x:=l.getD k (z0,z0)) ?_ Aa a;exact Qu
theorem lN(r:Rg)(c:r.length<=1000000):Sp 148 [rgV r] (DB (dM r)):=by
 refine zsp Tryz.func148 ?_;have v:(r.map vcV).length=r.length:=Af;generalize hP:dM r=P;have d:P↔dM r:=GK
 unfold dM at d
 repeat' ((conv=>whnf);first|refine zc (dS7 r c) ?_|refine zc (bT2 r c) ?_|refine zS ?_|refine zT ?_ ?_<;>intro _|fail)
 all_goals conv=>whnf
 all_goals first
  |(refine aA (aC ?_);rw[d];intro h;obtain⟨h1,h2,h3,x,y,z⟩:=h;first|omega|contradiction)
  |skip
 have h3:3<=r.length:=Aa;have f:r.length<=40:=Aa
 have w:bR7 r:=Ag;have q:0<zY r:=Aa
 refine lD (A:=Nat) (λk=>mkSt [(0,rgV r),(3,I r.length),(27,rgV r),(28,I r.length),(29,I k)] [] []) (λk=>k<=r.length/\∀i,i<k->kR (mY r i) (r.getD i z0) (iU r i)≠0) (λk=>r.length-k) 0 ?_ ⟨Aa,λi hi=>Aa⟩ (λk b=>?_)
 ·exact zj
 obtain⟨b,ht⟩:=b;have l:=aR7 r k;have m:=dJ5 r k
 by_cases a:k<r.length
 ·repeat' ((conv=>whnf);first|omega|refine aU3 (k:=k) Aa a ?_|refine zc (l a c) ?_|refine zc (m a c) ?_|refine zc (aI8 (mY r k) (r.getD k z0) (iU r k)) ?_|refine zS ?_|refine zT ?_ ?_<;>intro _|fail)
  all_goals conv=>whnf
  ·refine aA (aC ?_)
   rw[d];intro h;exact h.2.2.2.2.1 k a Ag
  ·exact Lc
 have o:k=r.length:=Aa;subst o;have g:=dT0 (r:=r) Aa
 have s:=qE r c;generalize B:bF r=E at*;have t:(E.map sgV).length=r.length:=by rw[Rl];exact g
 repeat' ((conv=>whnf);first|omega|refine zS ?_|refine zT ?_ ?_<;>intro _|fail)
 refine lD (A:=Nat) (λi=>mkSt [(3,I r.length),(6, .arr 45 0),(46,I r.length),(47,I i)] [] [(45,⟨0, .own,270,E.map sgV⟩)]) (λi=>i<=r.length/\∀i' k',i'<i->i'<k'->k'<r.length->cZ4 E r.length i' k') (λi=>r.length-i) 0 ?_ ⟨Aa,λi' k' hi=>Aa⟩ (λi hi=>?_)
 ·exact zj
 obtain⟨hi,hap⟩:=hi;by_cases u:i<r.length
 ·repeat' ((conv=>whnf);first|omega|refine zS ?_|refine zT ?_ ?_<;>intro _|fail)
  refine lD (A:=Nat) (λk=>mkSt [(3,I r.length),(6, .arr 45 0),(46,I r.length),(47,I i),(7,I i),(8,I k)] [] [(45,⟨0, .own,270,E.map sgV⟩)]) (λk=>i<k/\k<=r.length/\∀k',i<k'->k'<k->cZ4 E r.length i k') (λk=>r.length-k) (i+1) ?_ ⟨Aa,Aa,λk' h1 h2=>Aa⟩ (λk b=>?_)
  ·exact zj
  obtain⟨j,b,hin⟩:=b;by_cases a:k<r.length
  ·repeat' ((conv=>whnf);first|omega|refine dS rfl rfl FH ?_|refine dV6 (k:=i) Aa Aa ?_|refine dV6 (k:=k) Aa Aa ?_|refine zc (aS9 (E.getD i (z0,z0)) (E.getD k (z0,z0))) ?_|refine zS ?_|refine zT ?_ ?_<;>intro _|fail)
   all_goals conv=>whnf
   all_goals first
    |(refine aA (aC ?_);rw[d];intro h;exact absurd (h.2.2.2.2.2 i k j a Aa Aa) Ag)
    |skip
   all_goals
    refine⟨k+1,?_,⟨Aa,Aa,λk' h1 h2=>?_⟩,Aa⟩
    ·exact zj
    ·by_cases e:k'=k
     ·subst e
      intro C D
      first|assumption|omega
     ·exact hin k' h1 Aa
  ·exact J4
 ·have n:i=r.length:=by omega
  subst n
  repeat' ((conv=>whnf);first|omega|refine zS ?_|refine zT ?_ ?_<;>intro _|fail)
  all_goals conv=>whnf
  refine aA (fE ?_);rw[d];exact⟨h3,f,w,q,ht,λi k h1 h2=>hap i k Aa h1 h2⟩
theorem eA0{r:Rg}(h:dM r):nG r=zY r:=QO h
theorem dX4{r:Rg}(h:¬dM r):nG r=0:=Q5 h
theorem aX1(r:Rg)(a:r.length<=1000000):Sp 110 [rgV r] (I (nG r)):=by
 refine zsp Tryz.func110 ?_;have b:=eA0 (r:=r);have c:=dX4 (r:=r)
 generalize nG r=A at*
 repeat' ((conv=>whnf);first|refine zc (lN r a) ?_|refine zc (bT2 r a) ?_|refine zS ?_|refine zT ?_ ?_<;>intro _|fail)
 all_goals conv=>whnf
 all_goals first
  |exact aG (c Ag).symm
  |exact aG (b Ag).symm
theorem cM0(p:Pt)(v:Vc):Sp 292 [vcV v, .fp (ptV p).cells] (vcV (toP p v)):=by
 refine zsp Tryz.func292 ?_;exact Ou
theorem dT8{a b:Bool}:eqBB a b=true↔a=b:=by unfold eqBB;simp
theorem br_ll{a b:Int}{A B:Prop}(c:(0<=a↔0<=b)->A)(d:¬(0<=a↔0<=b)->B):branch (eqBB (leB 0 a) (leB 0 b)) A B:=by
 have e:eqBB (leB 0 a) (leB 0 b)=true↔(0<=a↔0<=b):=by rw[dT8,TI,bV6,bV6]
 grind [jU]
theorem br_l2{a b:Int}{A B:Prop}(c:(0<=a↔0<b)->A)(d:¬(0<=a↔0<b)->B):branch (eqBB (leB 0 a) (ltB 0 b)) A B:=by
 have e:eqBB (leB 0 a) (ltB 0 b)=true↔(0<=a↔0<b):=by rw[dT8,TI,bV6,dC8]
 grind [jU]
theorem qB(p:Pt):∀b:Bool,lU p [] b=if b=true then 2 else 0:=λb=>by unfold lU;rfl
theorem oP{p:Pt}{e:Sg}{es:List Sg}{b:Bool}(h:onE p e):lU p (e::es) b=1:=by
 rw[lU,QO h]
theorem rE{p:Pt}{e:Sg}{es:List Sg}{b:Bool}(h:¬onE p e)(a:rW p e):lU p (e::es) b=lU p es (!b):=by
 rw[lU,Q5 h,QO a]
theorem jD{p:Pt}{e:Sg}{es:List Sg}{b:Bool}(h:¬onE p e)(a:¬rW p e):lU p (e::es) b=lU p es b:=by
 rw[lU,Q5 h,Q5 a]
theorem eA4{r:Rg}{p:Pt}(h:¬dM r\/¬wJ p):iF r p=0:=Q5 (λq=>by rcases h with h|h<;>simp_all)
theorem aD9{r:Rg}{p:Pt}(h:dM r)(a:wJ p):iF r p=lU p (bF r) false:=QO ⟨h,a⟩
theorem aB7(r:Rg)(p:Pt)(s:r.length<=1000000):Sp 242 [rgV r,ptV p] (I (iF r p)):=by
 refine zsp Tryz.func242 ?_;have m:=eA4 (r:=r) (p:=p);have n:=aD9 (r:=r) (p:=p)
 have g:=qE r s;generalize iF r p=A at*;generalize o:bF r=E at*
 repeat' ((conv=>whnf);first|refine zc (lN r s) ?_|refine zc (bW9 p) ?_|refine zc g ?_|refine zS ?_|refine zT ?_ ?_<;>intro _|fail)
 all_goals conv=>whnf
 all_goals first
  |exact aG (m GL).symm
  |skip
 have y:=n Ag Ag;clear m n
 have z:E.length<=1000000:=by
  rw[<-o];unfold bF;split<;>simp;omega
 clear o g;refine oU (A:=List Sg) (B:=List Sg) (C:=Bool) (λD R b=>mkSt [(5, .fn 292 [.fp (ptV p).cells]),(6, .lit (.bool b)),(23, .arr 23 0),(24,I E.length),(25,I D.length)] [] [(23,⟨0, .own,270,E.map sgV⟩)]) (λD R b=>E=D++R/\A=lU p R b) (λD R b=>R.length) [] E false ?_ ⟨rfl,y⟩ (λD R b hp=>?_)
 ·exact IU
 obtain⟨hp,k⟩:=hp
 cases R with
 |nil=>
  have j:E.length=D.length:=Ae;rw[qB]at k
  repeat' ((conv=>whnf);first|omega|refine zS ?_|refine zT ?_ ?_<;>intro _|fail)
  all_goals conv=>whnf
  all_goals exact aG (by rw[k];simp[*])
 |cons e R=>
  have j:=aO hp;have u:=oP (p:=p) (e:=e) (es:=R) (b:=b)
  have v:=rE (p:=p) (e:=e) (es:=R) (b:=b);have w:=jD (p:=p) (e:=e) (es:=R) (b:=b)
  rw[<-k]at u v w;have H:=kD (vsub e.2 e.1) (toP p e.1);have d:onE p e↔bZ (vsub e.2 e.1) (toP p e.1)=0/\_:=RN
  have i:rW p e↔¬(0<=(toP p e.1).2↔0<=(toP p e.2).2)/\(0<=(toP p e.1).2↔0<bZ (vsub e.2 e.1) (toP p e.1)):=RN;simp only[<-lH,<-mG]at d;generalize bZ (vsub e.2 e.1) (toP p e.1)=t at*;have F:=cM0 p e.1
  have G:=cM0 p e.2;generalize toP p e.1=a at*;generalize toP p e.2=c at*
  repeat' ((conv=>whnf);first|omega|refine dS rfl rfl (by show 0<=_/\_< ((E.map sgV).length:Int);rw[Rl];omega) ?_|refine aF (l:=E) (A:=D) (x:=e) (B:=R) hp Aa ?_|refine zc F ?_|refine zc G ?_|refine zc (fF e.2 e.1) ?_|refine zc H ?_|refine br_ll (λf=>?_) (λf=>?_)|refine br_l2 (λf=>?_) (λf=>?_)|refine zS ?_|refine zT ?_ ?_<;>intro _|fail)
  all_goals conv=>whnf
  all_goals first
   |exact aG (u (d.2 ⟨Aa,Aa,Aa,Aa,Aa⟩)).symm
   |skip
  all_goals
   first
   |(refine⟨(D++[e],R, !b),?_,⟨Ae,v (λq=>by have q:=d.1 q;omega) (i.2 ⟨Ag,Ag⟩)⟩,Af⟩)
   |(refine⟨(D++[e],R,b),?_,⟨Ae,w (λq=>by have q:=d.1 q;omega) (λq=>by obtain⟨J,K⟩:=i.1 q;contradiction)⟩,Af⟩)
   exact Nj
theorem aC1{r:Rg}{v:Vc}(h:within v 4000):fJ r v=iF r (v.1,v.2,1):=QO h
theorem eA7{r:Rg}{v:Vc}(h:¬within v 4000):fJ r v=0:=Q5 h
theorem cL0(r:Rg)(v:Vc)(c:r.length<=1000000):Sp 201 [rgV r,vcV v] (I (fJ r v)):=by
 refine zsp Tryz.func201 ?_;have a:=aC1 (r:=r) (v:=v);have b:=eA7 (r:=r) (v:=v)
 generalize fJ r v=A at*
 repeat' ((conv=>whnf);first|refine zc (kC v 4000) ?_|refine zc (zN v) ?_|refine zc (aB7 r (v.1,v.2,1) c) ?_|refine zS ?_|refine zT ?_ ?_<;>intro _|fail)
 all_goals conv=>whnf
 all_goals first
  |exact aG (b Ag).symm
  |exact aG (a Ag).symm
open Classical in
def boxR(r:Rg):Bx×Bool:=if dM r then aC7 r else(((0,0),(0,0)),false)
theorem dX3{r:Rg}(h:dM r):boxR r=aC7 r:=QO h
theorem eX2{r:Rg}(h:¬dM r):boxR r=(((0,0),(0,0)),false):=Q5 h
theorem dL2(r:Rg)(b:r.length<=1000000):Sp 205 [rgV r] (.tup [bxV (boxR r).1, .lit (.bool (boxR r).2)]):=by
 refine zsp Tryz.func205 ?_;have c:=dX3 (r:=r);have d:=eX2 (r:=r)
 have e:=bI9 r b;generalize boxR r=A at*;generalize aC7 r=B at*
 repeat' ((conv=>whnf);first|refine zc (lN r b) ?_|refine zS ?_|refine zd (λa=>?_) (λa=>?_))
 ·rw[c a]
  all_goals exact zE
 ·rw[d a]
  all_goals exact zE
theorem eL0{r:Rg}{k:Nat}(h:k<r.length):r.take (k+1)=r.take k++[r.getD k z0] :=by
 rw[Uw,getD_some h];rfl
theorem eA2(a b:Rg)(g:a.length<=1000000)(i:b.length<=1000000):Sp 293 [rgV a,rgV b] (DB (a=b)):=by
 refine zsp Tryz.func293 ?_;have e:(a.map vcV).length=a.length:=Af;have f:(b.map vcV).length=b.length:=Af
 repeat' ((conv=>whnf);first|refine zS ?_|refine zT ?_ ?_<;>intro _|fail)
 all_goals conv=>whnf
 all_goals first
  |(refine aA (aC ?_);intro h;subst h;omega)
  |skip
 have hab:a.length=b.length:=Aa;refine lD (A:=Nat) (λk=>mkSt [(0,rgV a),(1,rgV b),(11,rgV a),(12,I a.length),(13,I k)] [] []) (λk=>k<=a.length/\a.take k=b.take k) (λk=>a.length-k) 0 ?_ ⟨Aa,rfl⟩ (λk c=>?_)
 ·exact zj
 obtain⟨c,ht⟩:=c;by_cases d:k<a.length
 ·repeat' ((conv=>whnf);first|omega|refine aU3 (r:=a) (k:=k) Aa Aa ?_|refine aU3 (r:=b) (k:=k) Aa Aa ?_|refine aT1 ?_|refine aB4 (λhv=>?_) (λhv=>?_)|refine zS ?_|refine zT ?_ ?_<;>intro _|fail)
  all_goals conv=>whnf
  ·refine⟨k+1,?_,⟨Aa,?_⟩,Aa⟩
   ·exact zj
   ·rw[eL0 Aa,eL0 Aa,ht,hv]
  ·refine aA (aC ?_)
   intro h;subst h;exact hv rfl
 ·have ek:k=a.length:=by omega
  repeat' ((conv=>whnf);first|omega|refine zS ?_|refine zT ?_ ?_<;>intro _|fail)
  all_goals conv=>whnf
  exact Qb
theorem wF(m x:Vc)(l:List Vc):sQ m (x::l)=sQ (open Classical in if kF x m then x else m) l:=by rw[sQ]
theorem cL6(r:Rg)(j:r.length<=1000000)(e:r≠ []):Sp 294 [rgV r, .fn 249 []] (vcV (wO r)):=by
 refine zsp Tryz.func294 ?_;have g:(r.map vcV).length=r.length:=Af;have f:1<=r.length:=by cases r with|nil=>exact absurd rfl e|cons x l=>simp
 obtain⟨x,l,d⟩:∃x l,r=x::l:=by cases r with|nil=>exact absurd rfl e|cons x l=>exact⟨x,l,rfl⟩
 have c:wO r=sQ x l:=by rw[d];rfl
 repeat' ((conv=>whnf);first|omega|refine aF (l:=r) (A:=[]) (x:=x) (B:=l) d rfl ?_|refine zS ?_|refine zl (λhlt=>?_) (λhlt=>?_))
 refine oU (A:=List Vc) (B:=List Vc) (C:=Vc) (λD R m=>mkSt [(0,rgV r),(1, .fn 249 []),(4, .box 4 0),(5, .box 5 0),(6,I D.length)] [(4,[I 0,I 0]),(5,(vcV m).cells)] []) (λD R m=>r=D++R/\wO r=sQ m R/\1<=D.length) (λD R m=>R.length) [x] l x ?_ ⟨d,c,Af⟩ (λD R m hp=>?_)
 ·exact zj
 obtain⟨hp,b,i⟩:=hp
 cases R with
 |nil=>
  have a:r.length=D.length:=Ae;rw[b];exact NU
 |cons y R=>
  have a:=aO hp;rw[wF]at b
  repeat' ((conv=>whnf);first|omega|refine zc (qI y m) ?_|refine zS ?_|refine zl (λhlt=>?_) (λhlt=>?_))
  all_goals conv=>whnf
  ·refine⟨(D++[y],R,y),?_,⟨Ae,by rw[b,QO (show kF y m from hlt)],Af⟩,Af⟩
   exact Nj
  ·refine⟨(D++[y],R,m),?_,⟨Ae,by rw[b,Q5 (show¬kF y m by unfold kF;omega)],Af⟩,Af⟩
   exact Nj
def bZ1(v:Vc)(r:Rg):Int:=match sN v r 0 with|some j=>j|none=> -1
theorem cJ4(r:Rg)(v:Vc)(d:r.length<=1000000):Sp 295 [rgV r,vcV v] (I (bZ1 v r)):=by
 refine zsp Tryz.func295 ?_;have c:(r.map vcV).length=r.length:=Af;unfold bZ1
 repeat' ((conv=>whnf);first|refine zS ?_|fail)
 refine aU (A:=List Vc) (B:=List Vc) (λD R=>mkSt [(0,rgV r),(3, .box 3 0),(6,rgV r),(7,I r.length),(8,I D.length)] [(3,(vcV v).cells)] []) (λD R=>r=D++R/\sN v r 0=sN v R D.length) (λD R=>R.length) [] r ?_ ⟨rfl,rfl⟩ (λD R hp=>?_)
 ·exact zj
 obtain⟨hp,b⟩:=hp
 cases R with
 |nil=>
  have a:r.length=D.length:=Ae
  repeat' ((conv=>whnf);first|omega|refine zS ?_|refine zT ?_ ?_<;>intro _|fail)
  all_goals conv=>whnf
  exact aG (by rw[b];rfl)
 |cons y R=>
  have a:=aO hp;rw[sN]at b
  repeat' ((conv=>whnf);first|omega|refine aT1 ?_|refine aB4 (λhv=>?_) (λhv=>?_)|refine zS ?_|refine zT ?_ ?_<;>intro _|fail)
  all_goals conv=>whnf
  ·exact aG (by rw[b,QO hv])
  ·rw[Q5 hv]at b
   refine⟨(D++[y],R),?_,⟨Ae,by rw[b];simp⟩,Af⟩
   exact Nj
theorem fB6{g:FuncId}{c d:List V}{Q:Vc->Prop}(f:∀m,Sp g (vcV m:: [.fp c, .fp d]) (DB (Q m)))(l:List Vc)(k:l.length<=1000000):fnVC T Tryz.prog Tryz.f241 [.sl (l.map vcV), .fn g [.fp c, .fp d]] (I (fstI Q l)):=by
 have i:(l.map vcV).length=l.length:=Af
 repeat' ((conv=>whnf);first|refine zS ?_|fail)
 refine aU (A:=List Vc) (B:=List Vc) (λD R=>mkSt [(0, .sl (l.map vcV)),(1, .fn g [.fp c, .fp d]),(7,I l.length),(8,I D.length)] [] [])
  (λD R=>l=D++R/\∀m∈D,¬Q m) (λD R=>R.length) [] l ?_ ⟨rfl,Af⟩ (λD R j=>?_)
 ·exact zj
 ·obtain⟨h1,h2⟩:=j
  have a:l.length=D.length+R.length:=Bh;have hD:∀y∈D,(!decB (Q y))=true:=λy hy=>Cc
  cases R with
  |nil=>
   have e:l=D:=Bh;simp at a
   repeat' ((conv=>whnf);first|omega|refine zS ?_|refine zl (λb=>?_) (λb=>?_))
   exact QE
  |cons x R=>
   rw[Rf]at a
   repeat' ((conv=>whnf);first|omega|refine aF (l:=l) (A:=D) (x:=x) (B:=R) h1 Aa ?_|refine zc (f x) ?_|refine zS ?_|refine zd (λhd=>?_) (λhd=>?_)|refine zl (λb=>?_) (λb=>?_))
   ·exact IY
   ·exact IB
theorem eH6{g:FuncId}{c d:List V}{Q:Vc->Prop}(a:∀m,Sp g (vcV m:: [.fp c, .fp d]) (DB (Q m)))(l:List Vc)(b:l.length<=1000000):Sp 241 [.sl (l.map vcV), .fn g [.fp c, .fp d]] (I (fstI Q l)):=zsp Tryz.func241 (fB6 a l b)
theorem fB1{g:FuncId}{c d:List V}{Q:Vc->Prop}(a:∀m,Sp g (vcV m:: [.fp c, .fp d]) (DB (Q m)))(l:List Vc)(b:l.length<=1000000):fnVC T Tryz.prog Tryz.f199 [.sl (l.map vcV), .fn g [.fp c, .fp d]] (DB (∃m∈l,Q m)):=by
 repeat' ((conv=>whnf);first|refine zc (eH6 a l b) ?_|refine zS ?_|fail)
 exact Nq
theorem eC1{g:FuncId}{c d:List V}{Q:Vc->Prop}(a:∀m,Sp g (vcV m:: [.fp c, .fp d]) (DB (Q m)))(l:List Vc)(b:l.length<=1000000):Sp 199 [.sl (l.map vcV), .fn g [.fp c, .fp d]] (DB (∃m∈l,Q m)):=zsp Tryz.func199 (fB1 a l b)
theorem dR4(b:Rg)(n:Int)(a:b.length<=1000000)(v:Vc):Sp 200 [vcV v, .fp [rgV b], .fp [I n]] (DB (¬fJ b v=n)):=by
 refine zsp Tryz.func200 ?_
 repeat' ((conv=>whnf);first|refine zc (cL0 b v a) ?_|refine zS ?_|fail)
 all_goals conv=>whnf
 all_goals refine aA (aF6 ?_)
 all_goals exact dY0
theorem tX(r b:Rg)(n:Int)(c:r.length<=1000000)(a:b.length<=1000000):Sp 149 [rgV r,rgV b,I n] (DB (pR r b n)):=by
 refine zsp Tryz.func149 ?_
 repeat' ((conv=>whnf);first|refine zc (eC1 (λv=>dR4 b n a v) r c) ?_|refine zS ?_|fail)
 all_goals conv=>whnf
 all_goals refine aA (aF6 ?_)
 rw[dW];unfold pR;constructor
 ·intro h v hv
  exact QG
 ·rintro h ⟨v,hv,hn⟩
  exact hn (h v hv)
theorem aK9{r:Rg}(h:r.length<=1000000):(bF r).length<=1000000:=by
 unfold bF;split<;>simp;omega
theorem vS(a b:Rg)(g:a.length<=1000000)(i:b.length<=1000000):Sp 150 [rgV a,rgV b] (DB (uV a b)):=by
 refine zsp Tryz.func150 ?_;have d:=qE a g;have e:=qE b i
 have j:=aK9 g;have k:=aK9 i
 generalize hP:uV a b=P;have f:P↔uV a b:=GK;unfold uV at f;generalize bF a=A at*;generalize bF b=B at*
 repeat' ((conv=>whnf);first|refine zc d ?_|refine zS ?_|fail)
 refine aU (A:=List Sg) (B:=List Sg) (λD R=>mkSt [(1,rgV b),(10, .arr 10 0),(11,I A.length),(12,I D.length)] [] [(10,⟨0, .own,270,A.map sgV⟩)]) (λD R=>A=D++R/\∀x∈D,∀y∈B,dG x y=0) (λD R=>R.length) [] A ?_ ⟨rfl,Af⟩ (λD R hp=>?_)
 ·exact IU
 obtain⟨hp,hD⟩:=hp
 cases R with
 |nil=>
  have c:A.length=D.length:=Ae
  repeat' ((conv=>whnf);first|omega|refine zS ?_|refine zT ?_ ?_<;>intro _|fail)
  all_goals conv=>whnf
  refine aA (fE (f.2 ?_));rw[hp,Rn];exact hD
 |cons x R=>
  have c:=aO hp
  repeat' ((conv=>whnf);first|omega|refine dS rfl rfl DI ?_|refine aF (l:=A) (A:=D) (x:=x) (B:=R) hp Aa ?_|refine zc e ?_|refine zS ?_|refine zT ?_ ?_<;>intro _|fail)
  refine aU (A:=List Sg) (B:=List Sg) (λE S=>mkSt [(1,rgV b),(6, .box 6 0),(10, .arr 10 0),(11,I A.length),(12,I D.length),(17, .arr 17 0),(18,I B.length),(19,I E.length)] [(6,(sgV x).cells)] [(10,⟨0, .own,270,A.map sgV⟩),(17,⟨0, .own,270,B.map sgV⟩)]) (λE S=>B=E++S/\∀y∈E,dG x y=0) (λE S=>S.length) [] B ?_ ⟨rfl,Af⟩ (λE S hq=>?_)
  ·exact IU
  obtain⟨hq,hE⟩:=hq
  cases S with
  |nil=>exact Nb
  |cons y S=>
   have hlen2:=aO hq
   repeat' ((conv=>whnf);first|omega|refine dS rfl rfl DJ ?_|refine aF (l:=B) (A:=E) (x:=y) (B:=S) hq Aa ?_|refine zc (aS9 x y) ?_|refine zS ?_|refine zT ?_ ?_<;>intro _|fail)
   all_goals conv=>whnf
   all_goals first
    |(refine aA (aC ?_);rw[f];intro h;exact absurd (h x Ae y Aq) Ag)
    |skip
   exact Qh
theorem eE1{T:Tab}{σ:St}{x:ItC}{k:Option Nat}{Q:ItQ}{A B:Type}(st:A->B->St)(g:A->B->Option Nat)(inv:A->B->Prop)(m:A->B->Nat)(d:A)(f:B)(j:Le T σ (st d f))(l:inv d f)(n:g d f=k)(h:∀a b,inv a b->x (g a b) (st a b) λe i c=>match e with
 | .normal=>∃p':A×B,Le T c (st p'.1 p'.2)/\inv p'.1 p'.2/\g p'.1 p'.2=i/\m p'.1 p'.2<m a b
 |e=>Q e i c):bX4 T x k σ Q:=
 eD4 (A:=A×B) (λp=>st p.1 p.2) (λp=>g p.1 p.2) (λp=>inv p.1 p.2) (λp=>m p.1 p.2) (d,f) j l n (λp o=>h p.1 p.2 o)
def iI(s:Sh):List (List V):=(rings s).map λr=> [rgV r]
theorem eE3(s:Sh):(iI s)[0]? =some [rgV s.outer] :=rfl
theorem dK1{s:Sh}{D R:List Rg}{h:Rg}(a:s.holes=D++h::R):(iI s)[D.length+1]? =some [rgV h] :=by
 unfold iI rings;rw[RD,RZ,a];simp
theorem dD3(r:Rg):bM [rgV r] :=by
 refine aH.2 (λy a=>?_);rw[QW.1 a];unfold rgV;simp only[V.ok];exact aH.2 (λz b=>by obtain⟨v,_,rfl⟩:=Ru.1 b;simp[vcV,I,V.ok,V.okL])
theorem dW4(s:Sh)(d:s.holes.length<=1000000):itVC T Tryz.prog Tryz.f152 [.fp (shV s).cells] (iI s):=by
 intro l;have b:(iI s).length=s.holes.length+1:=by unfold iI rings;simp
 repeat' ((conv=>whnf);first|refine cD0 ?_|refine dE2 (eE3 s) (dD3 _) ?_ ?_|refine zS ?_|fail)
 all_goals conv=>whnf
 all_goals first
  |exact trivial
  |skip
 refine eE1 (A:=List Rg) (B:=List Rg) (λD R=>mkSt [(0, .lit (.func (.yield l) ⟨[]⟩ ⟨[]⟩)),(1, .fp (shV s).cells),(11, .sl (s.holes.map rgV)),(12,I s.holes.length),(13,I D.length)] [] []) (λD R=>some (D.length+1)) (λD R=>s.holes=D++R) (λD R=>R.length) [] s.holes ?_ rfl rfl (λD R hp=>?_)
 ·exact IL
 have c:(s.holes.map rgV).length=s.holes.length:=Af
 cases R with
 |nil=>
  have a:s.holes.length=D.length:=Ae
  repeat' ((conv=>whnf);first|(exfalso;omega)|refine cD0 ?_|refine zT ?_ ?_<;>intro _|refine zS ?_|fail)
  all_goals conv=>whnf
  show D.length+1=(iI s).length;omega
 |cons h R=>
  have a:=aO hp
  repeat' ((conv=>whnf);first|(exfalso;omega)|refine cD0 ?_|refine dE2 (dK1 hp) (dD3 _) ?_ ?_|refine zS ?_|refine zT ?_ ?_<;>intro _|fail)
  all_goals conv=>whnf
  all_goals first
   |exact trivial
   |skip
  refine⟨(D++[h],R),?_,Ae,Af,Af⟩;exact Nj
theorem vJ(s:Sh)(a:s.holes.length<=1000000):aB0 T Tryz.prog 152 [.fp (shV s).cells] (iI s):=
 dZ5 uG mixed Tryz.func152 Ac (TT Ac) Ac (dW4 s a)
theorem rQ(s:Sh):Sp 111 [shV s] (.fn 152 [.fp (shV s).cells]):=by
 refine zsp Tryz.func111 ?_
 repeat' ((conv=>whnf);first|refine zS ?_|fail)
 all_goals conv=>whnf
 exact⟨by(repeat' (first|exact trivial|refine And.intro ?_ ?_|with_reducible rfl|exact(λh=>Ah)|exact rfl));done,rfl,λrs h=>V.noConfusion h⟩
theorem aM3{T:Tab}{P:Program}{σ:St}{f:Operand}{g:FuncId}{d:List V}{ps wr:List Nat}{x y:aA2}{Q:Exit->St->Prop}(c:List (List V))(v:aB0 T P g d c)(u:∀l∈c,l.length=ps.length){A B:Type}(st:A->B->St)(inv:Nat->A->B->Prop)(m:A)(n:B)
 (q:Le T σ (st m n))(r:inv 0 m n)(t:(st m n).ev f= .fn g d)(h:∀k a b l,inv k a b->c[k]? =some l->x ⟨cM2 ps l (st a b).env,(st a b).bx,(st a b).ar⟩ λe o=>match e with
  | .normal=>y o λe j=>match e with
    | .normal=>∃p':A×B,Le T (sJ wr j) (st p'.1 p'.2)/\inv (k+1) p'.1 p'.2
    | .ret=>Q .ret (sJ wr j)
    | .exit i=>Q (.exit i) (sJ wr j)
    |_=>False
  |_=>False)(s:∀a b,inv c.length a b->Q .normal (st a b)):aO0 T P f g d ps wr x y σ Q:=
 eS1 c v u (A:=A×B) (λp=>st p.1 p.2) (λk p=>inv k p.1 p.2) (m,n) q r t (λk p l=>h k p.1 p.2 l) (λp=>s p.1 p.2)
theorem idx_eq{a:Type}{f:a->V}{xs:List V}{l A B:List a}{x:a}{i:Nat}{K:V->Prop}(c:xs=l.map f)(h:l=A++x::B)(hi:i=A.length)(b:K (f x)):idx xs i K:=by
 subst c;exact aF h hi b
def gV(s:Sh):Prop:=s.outer.length<=1000000/\s.holes.length<=1000000/\∀h∈s.holes,h.length<=1000000
theorem gV.mem{s:Sh}(h:gV s){r:Rg}(hr:r∈rings s):r.length<=1000000:=by
 exact Qk
theorem vC(s:Sh):∀a∈iI s,a.length=1:=λa h=>by
 obtain⟨r,_,rfl⟩:=Ru.1 h;rfl
theorem aE4{s:Sh}{D R:List Rg}{a:List V}(b:rings s=D++R)(h:(iI s)[D.length]? =some a):∃r R',R=r::R'/\a=[rgV r] :=by
 unfold iI at h;rw[b,RD]at h;cases R<;>simp_all
theorem aN4(D:List Rg)(r:Rg):corners (D++[r])=corners D+r.length:=G6
theorem zF9{D:List Rg}(h:∀r∈D,dM r):corners D<=40*D.length:=by
 induction D with
 |nil=>simp[corners]
 |cons d D b=>
  have a:=(h d Af).2.1;grind [Rf,corners]
def Fits(s:Sh):Prop:=s.outer.length<=9223372036854775807/\s.holes.length<=1000000/\∀h∈s.holes,h.length<=9223372036854775807
theorem Fits.mem{s:Sh}(h:Fits s){r:Rg}(hr:r∈rings s):r.length<=9223372036854775807:=by
 exact Qk
theorem gV.fits{s:Sh}(h:gV s):Fits s:=⟨by have:=h.1;omega,h.2.1,λr a=>by have:=h.2.2 r a;omega⟩
theorem cA2(r:Rg)(c:r.length<=9223372036854775807):Sp 148 [rgV r] (DB (dM r)):=by
 by_cases h:r.length<=1000000
 ·exact lN r h
 ·have e:DB (dM r)= .lit (.bool false):=Ry (λb=>V.lit (.bool b)) (dW.2 (λq=>by have:=q.2.1;omega))
  rw[e];refine zsp Tryz.func148 ?_;have a:(r.map vcV).length=r.length:=Af;exact Oa
theorem wQ(s:Sh)(W:Fits s):Sp 109 [shV s] (DB (bG s)):=by
 refine zsp Tryz.func109 ?_;have U:(s.holes.map rgV).length=s.holes.length:=Af;generalize hP:bG s=P;have hr:P↔bG s:=GK
 unfold bG at hr
 repeat' ((conv=>whnf);first|refine zc (rQ s) ?_|refine zS ?_|refine zT ?_ ?_<;>intro _|fail)
 all_goals conv=>whnf
 all_goals first
  |(refine aA (aC ?_);rw[hr];intro h;obtain⟨h1,h2,G,H⟩:=h;first|omega|contradiction)
  |skip
 have O:s.holes.length<=6:=Aa
 refine aM3 (iI s) (vJ s Aa) (vC s) (A:=List Rg) (B:=List Rg) (λD R=>mkSt [(1, .box 1 0),(2, .box 2 0),(3, .box 3 0),(14, .fn 152 [.fp (shV s).cells])] [(1,(shV s).cells),(2,[.lit (.bool false)]),(3,[I (corners D)])] [])
  (λk D R=>rings s=D++R/\D.length=k/\∀r∈D,dM r) [] (rings s) ?_ ⟨rfl,rfl,Af⟩ rfl ?_ ?_
 ·exact zj
 ·rintro k D R Z ⟨hp,u,i⟩ t
  subst u;obtain⟨r,R',rfl,rfl⟩:=aE4 hp t;have d:=aO hp;have w:(rings s).length=s.holes.length+1:=AQ
  have C:r.length<=9223372036854775807:=W.mem Ae;have T:=zF9 i
  have v:(r.map vcV).length=r.length:=Af;have N:((corners (D++[r]):Nat):Int)=(corners D:Int)+((r.map vcV).length:Nat):=by rw[aN4,v];simp
  have M:=cA2 r C;rcases RX 40 r.length with L|X
  ·have V:¬dM r:=λh=>by have:=h.2.1;omega
   repeat' ((conv=>whnf);first|(exfalso;contradiction)|refine zc M ?_|refine zS ?_|refine zT ?_ ?_<;>intro _|fail)
   all_goals conv=>whnf
   refine aA (aC ?_);rw[hr];intro h;exact absurd (h.2.1 r Ae) Ag
  ·repeat' ((conv=>whnf);first|refine zc M ?_|refine zS ?_|refine zT ?_ ?_<;>intro _|fail)
   all_goals conv=>whnf
   ·refine⟨(D++[r],R'),?_,Ae,Af,λq hq=>?_⟩
    ·simp only[N]
     exact zj
    ·rcases QX.1 hq with hq|hq
     ·exact i q hq
     ·rw[QW.1 hq];assumption
   ·refine aA (aC ?_)
    rw[hr];intro h;exact absurd (h.2.1 r Ae) Ag
 ·rintro D R ⟨hp,u,i⟩
  have o:R=[] :=Jk;subst o;rw[Rn]at hp;subst hp;clear u;have w:(rings s).length=s.holes.length+1:=AQ
  have T:=zF9 i
  repeat' ((conv=>whnf);first|refine zS ?_|refine zT ?_ ?_<;>intro _|fail)
  all_goals conv=>whnf
  all_goals first
   |(refine aA (aC ?_);rw[hr];intro h;obtain⟨h1,h2,G,H⟩:=h;first|omega|contradiction)
   |skip
  have e:∀r∈rings s,r.length<=40:=λr hr=>(i r hr).2.1;have c:gV s:=⟨by have:=e s.outer AQ;omega,Aa,λr hr=>by have:=e r Dn;omega⟩
  clear e;have m:corners (rings s)<=80:=Aa;have y:P↔qR s.outer [] s.holes:=hr.trans ⟨λh=>h.2.2.2,λh=>⟨O,i,m,h⟩⟩
  refine aU (A:=List Rg) (B:=List Rg) (λD R=>mkSt [(1, .box 1 0),(2, .box 2 0),(26, .sl (s.holes.map rgV)),(27,I s.holes.length),(28,I D.length)] [(1,(shV s).cells),(2,[.lit (.bool false)])] []) (λD R=>s.holes=D++R/\(P↔qR s.outer D R)) (λD R=>R.length) [] s.holes ?_ ⟨rfl,y⟩ (λD R hp=>?_)
  ·exact IL
  obtain⟨hp,a⟩:=hp
  cases R with
  |nil=>
   have d:s.holes.length=D.length:=Ae
   repeat' ((conv=>whnf);first|omega|refine zS ?_|refine zT ?_ ?_<;>intro _|fail)
   all_goals conv=>whnf
   exact aA (fE (a.2 trivial))
  |cons h R=>
   have d:=aO hp;have b:h.length<=1000000:=c.2.2 h Ae
   rw[qR]at a;unfold cU0 at a;have F:((s.holes.map rgV).take ((D.length:Nat):Int).toNat)=D.map rgV:=by rw[Sz,hp];simp
   repeat' ((conv=>whnf);first|omega|refine aF (l:=s.holes) (A:=D) (x:=h) (B:=R) hp Aa ?_|refine zc (tX h s.outer 2 b c.1) ?_|refine zc (vS h s.outer b c.1) ?_|refine fU ⟨Aa,Aa,Aa, .inl rfl⟩ ?_|refine zS ?_|refine zT ?_ ?_<;>intro _|fail)
   all_goals conv=>whnf
   all_goals first
    |(refine aA (aC ?_);rw[a];intro h;obtain⟨⟨h1,h2,G⟩,H⟩:=h;contradiction)
    |skip
   refine aU (A:=List Rg) (B:=List Rg) (λE S=>mkSt [(1, .box 1 0),(2, .box 2 0),(6,rgV h),(26, .sl (s.holes.map rgV)),(27,I s.holes.length),(28,I D.length),(48, .sl (List.drop (Int.toNat 0) (List.take ((D.length:Nat):Int).toNat (List.map rgV s.holes)))),(49,I (List.drop (Int.toNat 0) (List.take ((D.length:Nat):Int).toNat (List.map rgV s.holes))).length),(50,I E.length)] [(1,(shV s).cells),(2,[.lit (.bool false)])] []) (λE S=>D=E++S/\∀k∈E,uV h k/\pR h k 0/\pR k h 0) (λE S=>S.length) [] D ?_ ⟨rfl,Af⟩ (λE S hq=>?_)
   ·exact zj
   obtain⟨hq,J⟩:=hq;have K:(List.drop (Int.toNat 0) (List.take ((D.length:Nat):Int).toNat (List.map rgV s.holes)))=D.map rgV:=F;have Q:(List.drop (Int.toNat 0) (List.take ((D.length:Nat):Int).toNat (List.map rgV s.holes))).length=D.length:=by rw[K,Rl]
   cases S with
   |nil=>
    have g:D.length=E.length:=Aq;have n:D=E:=Aq
    repeat' ((conv=>whnf);first|omega|refine zS ?_|refine zT ?_ ?_<;>intro _|fail)
    all_goals conv=>whnf
    refine⟨(D++[h],R),?_,⟨Ae,?_⟩,Af⟩
    ·exact IE
    ·rw[a]
     exact⟨λq=>q.2,λq=>⟨⟨Ag,Ag,by rw[n];exact J⟩,q⟩⟩
   |cons k S=>
    have g:=aO hq;have f:k.length<=1000000:=c.2.2 k Ib
    repeat' ((conv=>whnf);first|omega|refine idx_eq (l:=D) (A:=E) (x:=k) (B:=S) K hq Aa ?_|refine zc (vS h k b f) ?_|refine zc (tX h k 0 b f) ?_|refine zc (tX k h 0 f b) ?_|refine zS ?_|refine zT ?_ ?_<;>intro _|fail)
    all_goals conv=>whnf
    all_goals first
     |(refine aA (aC ?_);rw[a];intro q;have Y:=q.1.2.2 k Aq;obtain⟨q2,q3,q4⟩:=Y;contradiction)
     |skip
    refine⟨(E++[k],S),?_,⟨Aq,λz j=>?_⟩,Af⟩
    ·exact IE
    ·rcases QX.1 j with j|j
     ·exact J z j
     ·rw[QW.1 j]
      exact⟨Ag,Ag,Ag⟩
theorem kK(s:Sh)(a:gV s):Sp 109 [shV s] (DB (bG s)):=wQ s a.fits
theorem eI3{s:Sh}(h:bG s):uK s=qH (W (2*nG s.outer)) (rings s):=QO h
theorem eC2{s:Sh}(h:¬bG s):uK s=0:=Q5 h
theorem dS3(n:Int)(D:List Rg)(r:Rg):qH n (D++[r])=W (qH n D-nG r):=by unfold qH;rw[TR];rfl
theorem cG8(s:Sh)(a:gV s):Sp 69 [shV s] (I (uK s)):=by
 refine zsp Tryz.func69 ?_;have h1:=eI3 (s:=s);have h2:=eC2 (s:=s)
 generalize uK s=A at*;have i:s.outer.length<=1000000:=a.1
 repeat' ((conv=>whnf);first|refine zc (kK s a) ?_|refine zc (aX1 s.outer a.1) ?_|refine zc (rQ s) ?_|refine zg ?_|refine zw ?_|refine zn ?_|refine zz (λ_=>?_) λ_=>?_|refine zr ?_)
 all_goals conv=>whnf
 all_goals first
  |exact aG (h2 Ag).symm
  |skip
 have g:=h1 Ag
 refine aM3 (iI s) (vJ s a.2.1) (vC s) (A:=List Rg) (B:=List Rg) (λD R=>mkSt [(1, .box 1 0),(3, .box 3 0),(13, .fn 152 [.fp (shV s).cells])] [(1,(shV s).cells),(3,[I (qH (W (2*nG s.outer)) D)])] [])
  (λk D R=>rings s=D++R/\D.length=k) [] (rings s) ?_ ⟨rfl,rfl⟩ rfl ?_ ?_
 ·exact zj
 ·rintro k D R j ⟨hp,e⟩ c
  subst e;obtain⟨r,R',rfl,rfl⟩:=aE4 hp c;have d:r.length<=1000000:=a.mem Ae;have es:=dS3 (W (2*nG s.outer)) D r
  generalize W (2*nG s.outer)=f at*
  repeat' ((conv=>whnf);first|refine zc (aX1 r d) ?_|refine zi ?_|refine zw ?_)
  all_goals conv=>whnf
  refine⟨(D++[r],R'),?_,Ae,Af⟩;simp only[es];exact zj
 ·rintro D R ⟨hp,e⟩
  have b:R=[] :=Jk;subst b;rw[Rn]at hp;subst hp;generalize W (2*nG s.outer)=f at*
  repeat' ((conv=>whnf);first|refine zS ?_|fail)
  all_goals conv=>whnf
  exact aG g.symm
theorem dP7{s:Sh}{p:Pt}(h:¬bG s):qW s p=0:=Q5 h
theorem bQ2{s:Sh}{p:Pt}(h:bG s)(a:¬iF s.outer p=2):qW s p=iF s.outer p:=by unfold qW;rw[QO h,Q5 a]
theorem bP9{s:Sh}{p:Pt}(h:bG s)(a:iF s.outer p=2):qW s p=qG 2 p s.holes:=by unfold qW;rw[QO h,QO a]
theorem dX1{o:Int}{p:Pt}{h:Rg}{l:List Rg}(q:iF h p=2):qG o p (h::l)=0:=by rw[qG,QO q]
theorem eB4{o:Int}{p:Pt}{h:Rg}{l:List Rg}(q:iF h p=1):qG o p (h::l)=1:=by rw[qG,Q5 (by omega),QO q]
theorem dW5{o:Int}{p:Pt}{h:Rg}{l:List Rg}(q:¬iF h p=2)(a:¬iF h p=1):qG o p (h::l)=qG o p l:=by rw[qG,Q5 q,Q5 a]
theorem cA8(s:Sh)(p:Pt)(c:gV s):Sp 340 [shV s,ptV p] (I (qW s p)):=by
 refine zsp Tryz.func340 ?_;have g:=dP7 (s:=s) (p:=p);have i:=bQ2 (s:=s) (p:=p)
 have j:=bP9 (s:=s) (p:=p);have t:=aB7 s.outer p c.1
 have n:(s.holes.map rgV).length=s.holes.length:=Af;have k:=c.2.1
 generalize qW s p=A at*;generalize iF s.outer p=r at*
 repeat' ((conv=>whnf);first|refine zc (kK s c) ?_|refine zS ?_|refine zT ?_ ?_<;>intro _|fail)
 all_goals conv=>whnf
 all_goals first
  |exact aG (g Ag).symm
  |exact aG (i Ag Ag).symm
  |skip
 have b:=j Ag Ag;refine aU (A:=List Rg) (B:=List Rg) (λD R=>mkSt [(3, .box 3 0),(5,I r),(19, .sl (s.holes.map rgV)),(20,I s.holes.length),(21,I D.length)] [(3,(ptV p).cells)] []) (λD R=>s.holes=D++R/\A=qG 2 p R) (λD R=>R.length) [] s.holes ?_ ⟨rfl,b⟩ (λD R hp=>?_)
 ·exact IL
 obtain⟨hp,b⟩:=hp
 cases R with
 |nil=>
  have a:s.holes.length=D.length:=Ae
  repeat' ((conv=>whnf);first|omega|refine zS ?_|refine zT ?_ ?_<;>intro _|fail)
  all_goals conv=>whnf
  exact aG (by rw[b];show _=(2:Int);omega)
 |cons h R=>
  have a:=aO hp;have m:h.length<=1000000:=c.2.2 h Ae
  have f:=dX1 (o:=2) (p:=p) (h:=h) (l:=R);have e:=eB4 (o:=2) (p:=p) (h:=h) (l:=R)
  have d:=dW5 (o:=2) (p:=p) (h:=h) (l:=R);have q:=aB7 h p m
  rw[<-b]at d e f;generalize iF h p=wh at*
  repeat' ((conv=>whnf);first|omega|refine zS ?_|refine zT ?_ ?_<;>intro _|fail)
  all_goals conv=>whnf
  all_goals first
   |exact aG (f Ag).symm
   |exact aG (e Ag).symm
   |skip
  refine⟨(D++[h],R),?_,⟨Ae,d Ag Ag⟩,Af⟩;exact Nj
theorem cO2{s:Sh}{v:Vc}(h:within v 4000):lJ s v=qW s (v.1,v.2,1):=QO h
theorem eC0{s:Sh}{v:Vc}(h:¬within v 4000):lJ s v=0:=Q5 h
theorem aD4(s:Sh)(v:Vc)(c:gV s):Sp 304 [shV s,vcV v] (I (lJ s v)):=by
 refine zsp Tryz.func304 ?_;have a:=cO2 (s:=s) (v:=v);have b:=eC0 (s:=s) (v:=v)
 generalize lJ s v=A at*
 repeat' ((conv=>whnf);first|refine zc (kC v 4000) ?_|refine zc (zN v) ?_|refine zc (cA8 s (v.1,v.2,1) c) ?_|refine zS ?_|refine zT ?_ ?_<;>intro _|fail)
 all_goals conv=>whnf
 all_goals first
  |exact aG (b Ag).symm
  |exact aG (a Ag).symm
open Classical in
def boxS(s:Sh):Bx×Bool:=if bG s then boxR s.outer else(((0,0),(0,0)),false)
theorem eG7{s:Sh}(h:bG s):boxS s=boxR s.outer:=QO h
theorem eW5{s:Sh}(h:¬bG s):boxS s=(((0,0),(0,0)),false):=Q5 h
theorem aS0(s:Sh)(b:gV s):Sp 156 [shV s] (.tup [bxV (boxS s).1, .lit (.bool (boxS s).2)]):=by
 refine zsp Tryz.func156 ?_;have c:=eG7 (s:=s);have d:=eW5 (s:=s)
 have e:=dL2 s.outer b.1;generalize boxS s=A at*;generalize boxR s.outer=B at*
 repeat' ((conv=>whnf);first|refine zc (kK s b) ?_|refine zS ?_|refine zd (λa=>?_) (λa=>?_))
 ·rw[c a]
  all_goals exact zE
 ·rw[d a]
  all_goals exact zE
theorem gX{xs:List V}{a size:Nat}{K:Prop}(d:a<=10000)(c:∀x∈xs,x.cells.length=size)(b:xs.length<=1000000000)(e:K):need (xs.length*a<=140737488355328/\xs.length<=140737488355328/\∀x∈xs,x.cells.length=size) K:=by
 have:=UF b d;exact fU ⟨Aa,Aa,c⟩ e
def d0(D:List Rg)(r:Rg):List Rg:=D++[r]
def edgSt(s:Sh)(D:List Rg):St:=match D with
 | [] =>mkSt [(1, .box 1 0),(3, .box 3 0),(6, .fn 152 [.fp (shV s).cells])] [(1,(shV s).cells),(3,[nilV])] []
 |d::D=>mkSt [(1, .box 1 0),(3, .box 3 0),(6, .fn 152 [.fp (shV s).cells])] [(1,(shV s).cells),(3,[.arr 11 D.length])] [(11,⟨D.length, .own,270,((d::D).flatMap bF).map sgV⟩)]
theorem aX0(l:List Sg):∀y∈l.map sgV,y.cells.length=4:=λy hy=>AX
theorem cM5{r:Rg}(h:r.length<=1000000):((bF r).map sgV).length<=1000000:=by rw[Rl];exact aK9 h
theorem bC1{s:Sh}(f:gV s)(l:s.holes.length<=6){D R:List Rg}(hp:rings s=D++R):(D.flatMap bF).length<=7000000:=by
 have d:∀(E:List Rg),(∀r∈E,(bF r).length<=1000000)->(E.flatMap bF).length<=1000000*E.length:=by
  intro E
  induction E with
  |nil=>intro _;simp
  |cons e E g=>
   intro h;have a:=h e Af;have b:=g (λr c=>h r (by simp[c]))
   rw[SS,QU,Rf];omega
 have i:=d D (λr c=>aK9 (f.mem (by rw[hp];simp[c])))
 have j:(rings s).length=D.length+R.length:=Ae;have k:(rings s).length=s.holes.length+1:=AQ
 omega
theorem aV8(s:Sh)(f:gV s)(i:s.holes.length<=6):Sp 300 [shV s] (.own 270 ((aC0 s).map sgV)):=by
 refine zsp Tryz.func300 ?_
 repeat' ((conv=>whnf);first|refine zc (rQ s) ?_|refine zS ?_|fail)
 all_goals conv=>whnf
 refine aM3 (iI s) (vJ s f.2.1) (vC s) (A:=List Rg) (B:=List Rg) (λD R=>edgSt s D)
  (λk D R=>rings s=D++R/\D.length=k) [] (rings s) ?_ ⟨rfl,rfl⟩ rfl ?_ ?_
 ·exact zj
 ·rintro k D R n ⟨hp,g⟩ e
  subst g;obtain⟨r,R',rfl,rfl⟩:=aE4 hp e;have a:r.length<=1000000:=f.mem Ae;have l:=bC1 f i hp
  have j:=cM5 a;have c:(((d0 D r:List Rg).flatMap bF).map sgV)=(D.flatMap bF).map sgV++(bF r).map sgV:=by unfold d0;simp
  cases D with
  |nil=>
   repeat' ((conv=>whnf);first|refine zc (qE r a) ?_|refine gX (Q9 rfl) (aX0 _) (show((bF r).map sgV).length<=1000000000 from Aa) ?_|refine zS ?_|fail)
   all_goals conv=>whnf
   refine⟨([r],R'),?_,by rw[hp];rfl,rfl⟩
   show Le T _ (mkSt [(1, .box 1 0),(3, .box 3 0),(6, .fn 152 [.fp (shV s).cells])] [(1,(shV s).cells),(3,[.arr 11 0])] [(11,⟨0, .own,270,(([r] :List Rg).flatMap bF).map sgV⟩)]);rw[show([r] :List Rg).flatMap bF=bF r from Af];exact zj
  |cons d D=>
   have m:(((d::D).flatMap bF).map sgV).length=((d::D).flatMap bF).length:=Rl ..
   repeat' ((conv=>whnf);first|refine zc (qE r a) ?_|refine iH rfl (.inl rfl) rfl (Q9 rfl) (aX0 _) (show(((d::D).flatMap bF).map sgV).length+((bF r).map sgV).length<=1000000000 from Aa) ?_|refine zS ?_|fail)
   all_goals conv=>whnf
   refine⟨(d::D++[r],R'),?_,Ae,Af⟩;show Le T _ (mkSt [(1, .box 1 0),(3, .box 3 0),(6, .fn 152 [.fp (shV s).cells])] [(1,(shV s).cells),(3,[.arr 11 (D++[r]).length])] [(11,⟨(D++[r]).length, .own,270,(((d::D)++[r]).flatMap bF).map sgV⟩)]);rw[show((d::D)++[r])=d0 (d::D) r from rfl,c,QU,QY];exact zj
 ·rintro D R ⟨hp,g⟩
  have b:R=[] :=Jk;subst b;rw[Rn]at hp;unfold aC0;exact QB
end Go.Proofs.Led
namespace Go.Proofs
open Go.Shelf Go.Ab
def Tryz.bY5:Go.Shelf.Ren:=⟨λ|4=>328|n=>n,λ|22=>75|25=>97|n=>n,λn=>n⟩
theorem Tryz.cH7:Go.Proofs.Lays8.n4 Tryz.prog Tryz.bY5:={
 mixed:=Ac
 f4:=⟨Tryz.f328.name,Ai,Tryz.func328.trans (Ry some Ac)⟩
 t0:=Tryz.underlying0
 a0:=Tryz.isAgg0
 z0:=Tryz.sizeOf0
 v0:=Tryz.zeroValue0
 t3:=Tryz.underlying3
 a3:=Tryz.isAgg3
 z3:=Tryz.sizeOf3
 v3:=Tryz.zeroValue3
 t4:=Tryz.underlying4
 a4:=Tryz.isAgg4
 z4:=Tryz.sizeOf4
 v4:=Tryz.zeroValue4
 t9:=Tryz.underlying9
 a9:=Tryz.isAgg9
 z9:=Tryz.sizeOf9
 v9:=Tryz.zeroValue9
 t20:=Tryz.underlying20
 a20:=Tryz.isAgg20
 z20:=Tryz.sizeOf20
 v20:=Tryz.zeroValue20
 t22:=Tryz.underlying75
 a22:=Tryz.isAgg75
 z22:=Tryz.sizeOf75
 v22:=Tryz.zeroValue75}
end Go.Proofs
namespace Go.Proofs.Led
open Go Go.Proofs Go.Ab Go.RowKit
theorem dZ9{w:World}{G:Gh}{j:Nat}{v:Value}{u:Value}(h:Rb T w G j v (.lit u)):v=u:=h.2.bH
theorem arr2{cs:Array Value}(h:cs.size=2):∃a b,cs= #[a,b] :=by
 obtain⟨l⟩:=cs
 match l,h with
 | [a,b],_=>exact⟨a,b,rfl⟩
theorem row97:aH9 Tryz.prog 97 (T.row 97):=uG 97 (Q9 Ac)
theorem size97:(T.row 97).size=2:=Ac
theorem bytes97:(T.row 97).bytes=16:=Ac
theorem dP8(n:Nat)(L:n<=1000000):Sp 328 [.lit (.slice none 0 0),I n] (.own 97 []):=by
 refine⟨Ac,λw G cs C o h3 x K=>?_⟩;obtain⟨A,B,rfl⟩:=arr2 C;have H:A= .slice none 0 0:=dZ9 (x 0 A _ rfl rfl)
 have J:B= .int .i64 n:=dZ9 (x 1 B (I n) rfl rfl);subst H J;have f:97<T.n 97:=Q9 Ac
 rcases Nat.eq_zero_or_pos n with rfl|y
 ·refine(Any8.slices_Grow_room Tryz.cH7 none 0 0 0 w (QV _) Ai Ai Ai).mono ?_
  rintro e w' ⟨rfl,rfl⟩;refine⟨_,G,rfl,⟨f,Gz, .inl ⟨.inl rfl,rfl⟩⟩,λ_ h=>h,o,h3,λb hb=>?_,λ_ _ _=>rfl,QV _,rfl,rfl,rfl⟩;exact Oi
 ·obtain⟨F,r,t,g,z,E,u,_,m,_,_⟩:=row97.info
  rw[size97]at t m;rw[bytes97]at g;have v:z.cells.size=2:=by rw[<-RV,u,m]
  have d:Calls Tryz.prog 328 #[.slice none 0 0, .int .i64 n] w λe w'=>e= .returned (.slice (some ⟨w.heap.size,0,none⟩) 0 (grownCap w (0+n) 0 97))/\
   w'=w.drew.alloc (.cells (([] :List Value).toArray++Builtin.zeroCells z.cells (0+n-0)++Builtin.zeroCells z.cells (grownCap w (0+n) 0 97- (0+n))) 97):=
   Any8.slices_Grow_grow Tryz.cH7 F z r E Aa none 0 0 n [] w (QV _) Aa (by rw[g];omega) Aa Af (λ_=>rfl) (λa h=>Ah)
  refine d.mono ?_;rintro e w' ⟨rfl,rfl⟩;have D:=grownCap_ge w (0+n) 0 97;have s:=grownCap_le_maxLen w (0+n) 0 97 CB
  have c:(w.drew.alloc (.cells (([] :List Value).toArray++Builtin.zeroCells z.cells (0+n-0)++Builtin.zeroCells z.cells (grownCap w (0+n) 0 97- (0+n))) 97)).heap.size=w.heap.size+1:=Array.size_push _;have k:(w.drew.alloc (.cells (([] :List Value).toArray++Builtin.zeroCells z.cells (0+n-0)++Builtin.zeroCells z.cells (grownCap w (0+n) 0 97- (0+n))) 97)).heap[w.heap.size]? =some (.cells (([] :List Value).toArray++Builtin.zeroCells z.cells (0+n-0)++Builtin.zeroCells z.cells (grownCap w (0+n) 0 97- (0+n))) 97 (0,0)):=U5
  have l:∀b,b<w.heap.size->(w.drew.alloc (.cells (([] :List Value).toArray++Builtin.zeroCells z.cells (0+n-0)++Builtin.zeroCells z.cells (grownCap w (0+n) 0 97- (0+n))) 97)).heap[b]? =w.heap[b]? :=by
   intro b hb;have:(w.drew.alloc (.cells (([] :List Value).toArray++Builtin.zeroCells z.cells (0+n-0)++Builtin.zeroCells z.cells (grownCap w (0+n) 0 97- (0+n))) 97)).heap=w.heap.push _:=rfl;rw[this,Array.getElem?_push_lt hb,U0 hb]
  refine⟨_,{G with O:=upd G.O w.heap.size (.ar 0)},rfl,⟨f,Gz, .inr ⟨w.heap.size,_,_,rfl,upd_same _ _ _,k,RI _,s,?_,Af,?_⟩⟩,?_,?_,?_,?_,λb hb _=>l b hb,by rw[c];omega,rfl,rfl,rfl⟩
  ·rw[UE,UE,size_zeroCells,size_zeroCells,v,size97]
   show 0+(0+n-0)*2+(grownCap w (0+n) 0 97- (0+n))*2=grownCap w (0+n) 0 97*2;omega
  ·refine⟨Af,Af,Af⟩
  ·intro b hb
   have:b≠w.heap.size:=λe=>by have:=o b AP;omega
   show upd G.O w.heap.size (.ar 0) b= .fz;rw[upd_ne _ _ this];exact hb
  ·intro b hb
   rw[c];change upd G.O w.heap.size (.ar 0) b≠ .ext at hb;by_cases e:b=w.heap.size
   ·omega
   ·have q:G.O b≠ .ext:=by
     have:=hb;rw[show(upd G.O w.heap.size (Tag.ar 0)) b=G.O b from upd_ne _ _ e]at this;exact this
    have:=o b q;omega
  ·intro b i hb
   change upd G.O w.heap.size (.ar 0) b= .bx i at hb;by_cases e:b=w.heap.size
   ·subst e
    rw[show(upd G.O w.heap.size (Tag.ar 0)) w.heap.size= .ar 0 from upd_same _ _ _]at hb;cases hb
   ·rw[show(upd G.O w.heap.size (Tag.ar 0)) b=G.O b from upd_ne _ _ e]at hb
    exact h3 b i hb
  ·intro b hb
   change upd G.O w.heap.size (.ar 0) b≠ .ext at hb;show(G.O b= .fz/\upd G.O w.heap.size (.ar 0) b= .fz)\/_;by_cases e:b=w.heap.size
   ·exact .inr (.inl Aa)
   ·rw[show(upd G.O w.heap.size (Tag.ar 0)) b=G.O b from upd_ne _ _ e]at hb⊢
    exact Oi
end Go.Proofs.Led
namespace Go.Proofs.Led
open Go Go.Proofs Go.Ab
theorem cN6(L:List Rg)(r:L.length<=100)(g:∀l∈L,l.length<=10000):Sp 296 [.sl (L.map rgV)] (.own 97 (L.flatten.map vcV)):=by
 refine zsp Tryz.func296 ?_;have k:(L.map rgV).length=L.length:=Af
 have b:∀D:List Rg,(∀l∈D,l.length<=10000)->D.flatten.length<=D.length*10000:=by
  intro D
  induction D with
  |nil=>intro _;simp
  |cons d D o=>
   intro h;have h1:=h d Af;have q:=o (λl c=>h l (by simp[c]))
   simp only[List.flatten_cons,QU,Rf];omega
 repeat' ((conv=>whnf);first|refine zS ?_|fail)
 refine aU (A:=List Rg) (B:=List Rg) (λD R=>mkSt [(0, .sl (L.map rgV)),(3,I D.flatten.length),(9, .sl (L.map rgV)),(10,I L.length),(11,I D.length)] [] [])
  (λD R=>L=D++R) (λD R=>R.length) [] L ?_ rfl (λD R f=>?_)
 ·exact zj
 ·have h1:L=D++R:=f
  have a:L.length=D.length+R.length:=Bh;have j:=b D (λl c=>g l (by rw[h1];simp[c]))
  cases R with
  |cons x R=>
   rw[Rf]at a;have n:=g x Bh;have i:(x.map vcV).length=x.length:=Af
   repeat' ((conv=>whnf);first|omega|refine zS ?_|refine zT ?_ ?_<;>intro _|fail)
   conv=>whnf
   refine⟨(D++[x],R),?_,?_,?_⟩
   ·refine dV ?_ ?_ ?_ ?_
    all_goals repeat' (first|exact trivial|refine And.intro ?_ ?_|with_reducible rfl|exact(λh=>Ah)|exact QV _|omega|exact rfl)
    ·show(D.flatten.length:Int)+((x.map vcV).length:Nat)=((D++[x]).flatten.length:Nat)
     rw[i];simp
    ·show(D.length:Int)+1=(D++[x]).length
     simp
   ·show L=D++[x] ++R
    rw[h1];simp
   ·show R.length< (x::R).length
    simp
  |nil=>
   have e:L=D:=Bh;simp at a
   repeat' ((conv=>whnf);first|omega|refine zc (dP8 D.flatten.length Aa) ?_|refine zS ?_|refine zT ?_ ?_<;>intro _|fail)
   clear h1 f a j
   refine aU (A:=List Rg) (B:=List Rg) (λD R=>mkSt [(6, .arr 24 D.length),(25, .sl (L.map rgV)),(26,I L.length),(27,I D.length)] [] [(24,⟨D.length, .own,97,D.flatten.map vcV⟩)])
    (λD R=>L=D++R) (λD R=>R.length) [] L ?_ rfl (λD R f=>?_)
   ·exact zj
   ·have h1:L=D++R:=f
    have a:L.length=D.length+R.length:=Bh;have j:=b D (λl c=>g l (by rw[h1];simp[c]))
    cases R with
    |cons x R=>
     rw[Rf]at a;have n:=g x Bh
     repeat' ((conv=>whnf);first|omega|refine iH rfl (.inl rfl) rfl (Q9 rfl) (λy hy=>AX) (by show(List.map vcV D.flatten).length+(List.map vcV x).length<=_;rw[Rl,Rl];omega) ?_|refine zS ?_|refine zT ?_ ?_<;>intro _|fail)
     conv=>whnf
     refine⟨(D++[x],R),?_,?_,?_⟩
     ·refine dV ?_ ?_ ?_ ?_
      all_goals repeat' (first|exact trivial|refine And.intro ?_ ?_|with_reducible rfl|exact(λh=>Ah)|exact QV _|omega|exact rfl)
      all_goals first
       |(show D.length+1=(D++[x]).length;simp;done)
       |(show List.map vcV D.flatten++List.map vcV x=List.map vcV (D++[x]).flatten;simp;done)
       |(show(D.length:Int)+1=(D++[x]).length;simp;done)
     ·show L=D++[x] ++R
      rw[h1];simp
     ·show R.length< (x::R).length
      simp
    |nil=>
     have e:L=D:=Bh;simp at a
     repeat' ((conv=>whnf);first|omega|refine zS ?_|refine zT ?_ ?_<;>intro _|fail)
     conv=>whnf
     refine⟨⟨⟨rfl,rfl,rfl,?_⟩,trivial⟩,rfl,λ_ h=>Ah⟩;show List.map vcV D.flatten=List.map vcV L.flatten;rw[e]
theorem dT1{xs ys:List V}{X Y Z:Rg}(d:xs=X.map vcV)(e:ys=Y.map vcV)(f:Z=X++Y)(b:X.length<=10000)(c:Y.length<=10000):Sp 296 [.sl [.sl xs, .sl ys]] (.own 97 (Z.map vcV)):=by
 subst d e f
 have:=cN6 [X,Y] Af (λl a=>by
  rcases Rh.1 a with rfl|a
  ·exact b
  ·cases QW.1 a;exact c)
 rwa [show [X,Y].flatten=X++Y from Af]at this
theorem bJ7{r:Rg}(h:dM r):gQ r=wL r:=QO h
theorem eJ3{r:Rg}(h:¬dM r):gQ r=[] :=Q5 h
theorem aU6(r:Rg)(b:r.length<=1000000):Sp 246 [rgV r] (.sl ((gQ r).map vcV)):=by
 refine zsp Tryz.func246 ?_;have m:(r.map vcV).length=r.length:=Af;by_cases c:dM r
 ·rw[bJ7 c]
  have a:r≠ [] :=λh=>by have:=c.1;rw[h]at this;simp at this
  have f:=c.2.1;obtain⟨j,e,_,l⟩:=aT6 (k:=0) (eH8 a);have d:bZ1 (wO r) r=j:=by unfold bZ1;rw[e]
  have hi:=cJ4 r (wO r) b;rw[d]at hi;have g:wL r=r.drop j++r.take j:=by unfold wL;rw[e];rfl
  rw[g]
  have i:=xX (dT1 (xs:=((r.map vcV).take (((r.map vcV).length:Nat):Int).toNat).drop ((j:Nat):Int).toNat) (ys:=((r.map vcV).take ((j:Nat):Int).toNat).drop (0:Int).toNat) (X:=r.drop j) (Y:=r.take j) (Z:=r.drop j++r.take j)
   (by rw[Sz,Sz,TL,List.map_drop]) (by rw[Sz,List.map_take];rfl) rfl (by rw[RU];omega) Gv)
  repeat' ((conv=>whnf);first|(exfalso;contradiction)|refine zc (lN r b) ?_|refine zc (cL6 r b a) ?_|refine bW8 [] [(20,[88888])] trivial Ac ?_|refine fU ⟨Aa,Aa,Aa, .inr (λx n=>by obtain⟨v,_,rfl⟩:=Ru.1 n;rfl)⟩ ?_|refine zh (i) [] ?_|refine zS ?_|refine zT ?_ ?_<;>intro _|fail)
  all_goals conv=>whnf
  exact NE
 ·rw[eJ3 c]
  repeat' ((conv=>whnf);first|(exfalso;contradiction)|refine zc (lN r b) ?_|refine zS ?_|refine zT ?_ ?_<;>intro _|fail)
  all_goals conv=>whnf
  exact⟨⟨rfl,trivial⟩,rfl,λ_ h=>Ah⟩
theorem aM5(l:List Vc):∀y∈l.map vcV,y.cells.length=2:=λy hy=>AX
theorem aY2(r:Rg)(d:r.length<=1000000):Sp 353 [rgV r] (.sl (r.map vcV)):=by
 refine zsp Tryz.func353 ?_;have c:(r.map vcV).length=r.length:=Af
 repeat' ((conv=>whnf);first|(refine bV3.mk rfl (Q9 Ac) Ac (.inl rfl) ?_;intro b a;cases b)|refine iH rfl (.inl rfl) rfl (Q9 rfl) (aM5 r) (by show 0+(List.map vcV r).length<=_;omega) ?_|refine zS ?_|fail)
 all_goals conv=>whnf
 ·refine⟨?_,rfl,λrs h=>V.noConfusion h⟩
  (repeat' (first|exact trivial|refine And.intro ?_ ?_|with_reducible rfl|exact(λh=>Ah)|exact rfl));done
 ·have e:r=[] :=by
   cases r with
   |nil=>rfl
   |cons x l=>exact absurd (a Af) Ai
  subst e;exact NE
theorem bH7(a b:Rg)(c:a.length<=1000000)(d:b.length<=1000000):Sp 244 [rgV a,rgV b] (DB (a=b)):=by
 refine zsp Tryz.func244 ?_
 repeat' ((conv=>whnf);first|refine zc (eA2 a b c d) ?_|refine zS ?_|fail)
 all_goals exact zE
def sV(lo hi:Vc):Sh:=open Classical in if hi.1<=lo.1\/hi.2<=lo.2\/¬within lo 2000\/¬within hi 2000 then sh0 else⟨[lo,(hi.1,lo.2),hi,(lo.1,hi.2)],[]⟩
theorem eS0{lo hi:Vc}(h:hi.1<=lo.1\/hi.2<=lo.2\/¬within lo 2000\/¬within hi 2000):sV lo hi=sh0:=QO h
theorem eR9{lo hi:Vc}(h:¬(hi.1<=lo.1\/hi.2<=lo.2\/¬within lo 2000\/¬within hi 2000)):sV lo hi=⟨[lo,(hi.1,lo.2),hi,(lo.1,hi.2)],[]⟩:=Q5 h
theorem cX1(lo hi:Vc):Sp 310 [vcV lo,vcV hi] (shV (sV lo hi)):=by
 refine zsp Tryz.func310 ?_;have a:=eS0 (lo:=lo) (hi:=hi);have b:=eR9 (lo:=lo) (hi:=hi)
 generalize sV lo hi=A at*
 repeat' ((conv=>whnf);first|refine zc (kC lo 2000) ?_|refine zc (kC hi 2000) ?_|refine zS ?_|refine zT ?_ ?_<;>intro _|fail)
 all_goals conv=>whnf
 all_goals first
  |(rw[a BH];refine⟨?_,rfl,λrs h=>V.noConfusion h⟩;(repeat' (first|exact trivial|refine And.intro ?_ ?_|with_reducible rfl|exact(λh=>Ah)|exact rfl));done)
  |(rw[b (by rintro(q|q|q|q)<;>first|omega|contradiction)];refine⟨?_,rfl,λrs h=>V.noConfusion h⟩;(repeat' (first|exact trivial|refine And.intro ?_ ?_|with_reducible rfl|exact(λh=>Ah)|exact rfl));done)
theorem eG2{l:List Rg}{z:Int}{k:Nat}{K:V->Prop}(b:z=(k:Int))(h:k<l.length)(a:K (rgV (l.getD k []))):idx (l.map rgV) z.toNat K:=by
 subst b;refine gK (l:=l) (j:=k) (x:=l.getD k []) ?_ Aa a;exact Qu
theorem eJ5{l:List Rg}{k:Nat}(h:k<l.length):l.take (k+1)=l.take k++[l.getD k []] :=by
 rw[Uw,Sj,QS h];rfl
theorem getD_mem{l:List Rg}{k:Nat}(h:k<l.length):l.getD k []∈l:=LX
theorem dW1(a b:List Rg)(o:a.length<=1000000)(q:b.length<=1000000)(d:∀r∈a,r.length<=1000000)(e:∀r∈b,r.length<=1000000):Sp 245 [.sl (a.map rgV), .sl (b.map rgV), .fn 244 []] (DB (a=b)):=by
 refine zsp Tryz.func245 ?_;have m:(a.map rgV).length=a.length:=Af;have n:(b.map rgV).length=b.length:=Af
 repeat' ((conv=>whnf);first|refine zS ?_|refine ze (λg=>?_) (λg=>?_))
 all_goals conv=>whnf
 all_goals first
  |(refine aA (aC ?_);intro h;subst h;omega)
  |skip
 have hab:a.length=b.length:=Aa;refine lD (A:=Nat) (λk=>mkSt [(0, .sl (a.map rgV)),(1, .sl (b.map rgV)),(2, .fn 244 []),(15, .sl (a.map rgV)),(16,I a.length),(17,I k)] [] []) (λk=>k<=a.length/\a.take k=b.take k) (λk=>a.length-k) 0 ?_ ⟨Aa,rfl⟩ (λk j=>?_)
 ·exact zj
 obtain⟨j,ht⟩:=j;by_cases i:k<a.length
 ·have s:=bH7 (a.getD k []) (b.getD k []) (d _ (getD_mem i)) (e _ (getD_mem Aa))
  repeat' ((conv=>whnf);first|omega|refine eG2 (l:=a) (k:=k) Aa Aa ?_|refine eG2 (l:=b) (k:=k) Aa Aa ?_|refine zS ?_|refine zd (λf=>?_) (λf=>?_)|refine zl (λc=>?_) (λc=>?_))
  all_goals conv=>whnf
  ·refine⟨k+1,?_,⟨Aa,?_⟩,Aa⟩
   ·exact zj
   ·rw[eJ5 Aa,eJ5 Aa,ht,f]
  ·refine aA (aC ?_)
   intro h;subst h;exact f rfl
 ·have ek:k=a.length:=by omega
  repeat' ((conv=>whnf);first|omega|refine zS ?_|refine zl (λc=>?_) (λc=>?_))
  all_goals conv=>whnf
  exact Qb
theorem cQ8(a b:Sh)(c:gV a)(d:gV b):Sp 203 [shV a,shV b] (DB (a=b)):=by
 refine zsp Tryz.func203 ?_
 have e:a=b↔a.outer=b.outer/\a.holes=b.holes:=by
  obtain⟨f,g⟩:=a;obtain⟨i,j⟩:=b;simp
 repeat' ((conv=>whnf);first|refine zc (bH7 a.outer b.outer c.1 d.1) ?_|refine zc (dW1 a.holes b.holes c.2.1 d.2.1 c.2.2 d.2.2) ?_|refine zS ?_|refine zT ?_ ?_<;>intro _|fail)
 all_goals conv=>whnf
 all_goals first
  |(refine aA (fQ ?_);rw[e];exact⟨λq=>⟨Ag,q⟩,λq=>q.2⟩)
  |(refine aA (aC ?_);rw[e];intro q;exact absurd q.1 Ag)
def rinSt(s:Sh)(D:List Rg):St:=match D with
 | [] =>mkSt [(1, .box 1 0),(3, .box 3 0),(6, .fn 152 [.fp (shV s).cells])] [(1,(shV s).cells),(3,[nilV])] []
 |d::D=>mkSt [(1, .box 1 0),(3, .box 3 0),(6, .fn 152 [.fp (shV s).cells])] [(1,(shV s).cells),(3,[.arr 12 D.length])] [(12,⟨D.length, .own,75,(d::D).map rgV⟩)]
theorem dV3{s:Sh}(a:gV s){D R:List Rg}(hp:rings s=D++R):D.length<=1000001:=by
 have b:(rings s).length=D.length+R.length:=Ae;have c:(rings s).length=s.holes.length+1:=AQ
 have:=a.2.1;omega
theorem aW6(s:Sh)(e:gV s):Sp 339 [shV s] (.own 75 ((rings s).map rgV)):=by
 refine zsp Tryz.func339 ?_
 repeat' ((conv=>whnf);first|refine zc (rQ s) ?_|refine zS ?_|fail)
 all_goals conv=>whnf
 refine aM3 (iI s) (vJ s e.2.1) (vC s) (A:=List Rg) (B:=List Rg) (λD R=>rinSt s D)
  (λk D R=>rings s=D++R/\D.length=k) [] (rings s) ?_ ⟨rfl,rfl⟩ rfl ?_ ?_
 ·exact zj
 ·rintro k D R j ⟨hp,f⟩ c
  subst f;obtain⟨r,R',rfl,rfl⟩:=aE4 hp c;have a:r.length<=1000000:=e.mem Ae;have g:=dV3 e hp
  cases D with
  |nil=>
   repeat' ((conv=>whnf);first|refine zc (aY2 r a) ?_|refine gX (Q9 rfl) (dA rfl) (Q9 rfl) ?_|refine zS ?_|fail)
   all_goals conv=>whnf
   refine⟨([r],R'),?_,by rw[hp];rfl,rfl⟩
   show Le T _ (mkSt [(1, .box 1 0),(3, .box 3 0),(6, .fn 152 [.fp (shV s).cells])] [(1,(shV s).cells),(3,[.arr 12 0])] [(12,⟨0, .own,75,[rgV r]⟩)]);exact zj
  |cons d D=>
   have i:((d::D).map rgV).length=(d::D).length:=Rl ..
   repeat' ((conv=>whnf);first|refine zc (aY2 r a) ?_|refine iH rfl (.inl rfl) rfl (Q9 rfl) (dA rfl) (show((d::D).map rgV).length+1<=1000000000 from Aa) ?_|refine zS ?_|fail)
   all_goals conv=>whnf
   refine⟨(d::D++[r],R'),?_,Ae,Af⟩;show Le T _ (mkSt [(1, .box 1 0),(3, .box 3 0),(6, .fn 152 [.fp (shV s).cells])] [(1,(shV s).cells),(3,[.arr 12 (D++[r]).length])] [(12,⟨(D++[r]).length, .own,75,((d::D)++[r]).map rgV⟩)]);rw[show((d::D)++[r]).map rgV=(d::D).map rgV++[rgV r] from Af,QU,QY];exact zj
 ·rintro D R ⟨hp,f⟩
  have b:R=[] :=Jk;subst b;rw[Rn]at hp;exact QB
def verSt(rs:List Rg)(D:List Rg):St:=match D with
 | [] =>mkSt [(3,nilV),(7, .arr 7 0),(8,I rs.length),(9,I 0)] [] [(7,⟨0, .own,75,rs.map rgV⟩)]
 |d::D=>mkSt [(3, .arr 15 D.length),(7, .arr 7 0),(8,I rs.length),(9,I ((D.length:Int)+1))] [] [(7,⟨0, .own,75,rs.map rgV⟩),(15,⟨D.length, .own,97,(d::D).flatten.map vcV⟩)]
theorem dH9(D:List Rg)(h:∀r∈D,r.length<=1000000):D.flatten.length<=1000000*D.length:=by
 induction D with
 |nil=>simp
 |cons d D b=>
  have c:=h d Af;have e:=b (λr a=>h r (by simp[a]))
  rw[List.flatten_cons,QU,Rf];omega
theorem aJ3(s:Sh)(i:gV s)(q:s.holes.length<=6):Sp 302 [shV s] (.own 97 ((rings s).flatten.map vcV)):=by
 refine zsp Tryz.func302 ?_;have o:=aW6 s i;have b:rings s≠ [] :=AQ
 have k:(rings s).length<=7:=Fj;have a:∀r∈rings s,r.length<=1000000:=λr c=>i.mem c
 generalize rings s=rs at*;have l:(rs.map rgV).length=rs.length:=Af
 repeat' ((conv=>whnf);first|refine zS ?_|fail)
 refine aU (A:=List Rg) (B:=List Rg) (λD R=>verSt rs D) (λD R=>rs=D++R) (λD R=>R.length) [] rs ?_ rfl (λD R hp=>?_)
 ·exact IL
 have t:=dH9 D (λr c=>a r (by rw[hp];simp[c]))
 cases R with
 |nil=>
  have e:rs=D:=Ae;subst e
  cases rs with
  |nil=>exact absurd rfl b
  |cons d D=>
   have f:(d::D).length=D.length+1:=rfl
   repeat' ((conv=>whnf);first|omega|refine zS ?_|refine zT ?_ ?_<;>intro _|fail)
   all_goals conv=>whnf
   exact Pv
 |cons r R=>
  have g:=aO hp;have m:=a r Ae
  have n:(r.map vcV).length=r.length:=Af
  cases D with
  |nil=>
   have f:([] :List Rg).length=0:=rfl
   repeat' ((conv=>whnf);first|omega|refine dS rfl rfl D5 ?_|refine gX (Q9 rfl) (aM5 _) (show(r.map vcV).length<=1000000000 from Aa) ?_|refine zS ?_|refine zT ?_ ?_<;>intro _|fail)
   all_goals conv=>whnf
   refine⟨([r],R),?_,hp,Af⟩;show Le T _ (mkSt [(3, .arr 15 0),(7, .arr 7 0),(8,I rs.length),(9,I (0+1))] [] [(7,⟨0, .own,75,rs.map rgV⟩),(15,⟨0, .own,97,([r] :List Rg).flatten.map vcV⟩)]);rw[show([r] :List Rg).flatten=r from Af];exact zj
  |cons d D=>
   have f:(d::D).length=D.length+1:=rfl;have j:((d::D).flatten.map vcV).length=(d::D).flatten.length:=Rl ..
   repeat' ((conv=>whnf);first|omega|refine dS rfl rfl D5 ?_|refine iH rfl (.inl rfl) rfl (Q9 rfl) (aM5 _) (show((d::D).flatten.map vcV).length+(r.map vcV).length<=1000000000 from Aa) ?_|refine zS ?_|refine zT ?_ ?_<;>intro _|fail)
   all_goals conv=>whnf
   refine⟨(d::D++[r],R),?_,Ae,Af⟩;show Le T _ (mkSt [(3, .arr 15 (D++[r]).length),(7, .arr 7 0),(8,I rs.length),(9,I (((D++[r]).length:Int)+1))] [] [(7,⟨0, .own,75,rs.map rgV⟩),(15,⟨(D++[r]).length, .own,97,((d::D)++[r]).flatten.map vcV⟩)]);rw[show((d::D)++[r]).flatten.map vcV=(d::D).flatten.map vcV++r.map vcV from Af,QU,QY];exact zj
end Go.Proofs.Led
