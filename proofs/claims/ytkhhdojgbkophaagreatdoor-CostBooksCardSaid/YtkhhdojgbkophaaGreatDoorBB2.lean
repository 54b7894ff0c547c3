/-
  Rings: corners, area, edges, walked.
-/
import Derived.Test.YtkhhdojgbkophaaGreatDoorBSV4
set_option linter.unusedVariables false
set_option linter.unusedSimpArgs false
set_option maxRecDepth 100000
set_option maxHeartbeats 4000000
noncomputable section
namespace Go.Proofs.Led
open Go Go.Proofs Go.Ab
theorem fB5{g:FuncId}{Q:Vc->Prop}(hg:∀m,Sp g (vcV m:: []) (DB (Q m)))(l:List Vc)(hl:l.length<=1000000):fnVC T Tryz.prog Tryz.f242 [.sl (l.map vcV), .fn g []] (I (fstI Q l)):=by
 have hll:(l.map vcV).length=l.length:=Ae
 repeat' ((conv=>whnf);first|refine zS ?_|fail)
 refine aU (A:=List Vc) (B:=List Vc) (fun D R=>mkSt [(0, .sl (l.map vcV)),(1, .fn g []),(7,I l.length),(8,I D.length)] [] [])
  (fun D R=>l=D++R/\∀m∈D,¬Q m) (fun D R=>R.length) [] l ?_ ⟨rfl,Ae⟩ (fun D R hp=>?_)
 ·exact zj
 ·exact Io
theorem eI1{g:FuncId}{Q:Vc->Prop}(hg:∀m,Sp g (vcV m:: []) (DB (Q m)))(l:List Vc)(hl:l.length<=1000000):Sp 242 [.sl (l.map vcV), .fn g []] (I (fstI Q l)):=zsp Tryz.func242 (fB5 hg l hl)
theorem fC1{g:FuncId}{Q:Vc->Prop}(hg:∀m,Sp g (vcV m:: []) (DB (Q m)))(l:List Vc)(hl:l.length<=1000000):fnVC T Tryz.prog Tryz.f205 [.sl (l.map vcV), .fn g []] (DB (∃m∈l,Q m)):=by
 repeat' ((conv=>whnf);first|refine zc (eI1 hg l hl) ?_|refine zS ?_|fail)
 exact MV
theorem dV4{g:FuncId}{Q:Vc->Prop}(hg:∀m,Sp g (vcV m:: []) (DB (Q m)))(l:List Vc)(hl:l.length<=1000000):Sp 205 [.sl (l.map vcV), .fn g []] (DB (∃m∈l,Q m)):=zsp Tryz.func205 (fC1 hg l hl)
theorem aS9(s t:Sg):Sp 169 [sgV s,sgV t] (I (dG s t)):=by
 refine zsp Tryz.func169 ?_
 repeat' ((conv=>whnf);first|refine zc (cU7 s t) ?_|refine zS ?_|fail)
 all_goals exact zE
theorem eD9(v:Vc):Sp 206 [vcV v] (DB (¬within v 2000)):=by
 refine zsp Tryz.func206 ?_
 repeat' ((conv=>whnf);first|refine zc (kC v 2000) ?_|refine zS ?_|fail)
 all_goals conv=>whnf
 all_goals refine aA (aF6 dW)
theorem dS7(r:Rg)(hl:r.length<=1000000):Sp 164 [rgV r] (DB (bR7 r)):=by
 refine zsp Tryz.func164 ?_
 repeat' ((conv=>whnf);first|refine zc (dV4 (fun v=>eD9 v) r hl) ?_|refine zS ?_|fail)
 all_goals conv=>whnf
 all_goals refine aA (aF6 ?_)
 rw[dW];unfold bR7;constructor
 ·intro h v hv
  exact P6
 ·rintro h ⟨v,hv,hn⟩
  exact hn (h v hv)
theorem dX5{z:Int}{a n:Nat}(h:z=(a:Int)):z.tmod (n:Int)=((a% n:Nat):Int):=by
 subst h;rw[Int.tmod_eq_emod_of_nonneg Aa];rfl
theorem getD_some{r:Rg}{k:Nat}(h:k<r.length):r[k]? =some (r.getD k z0):=by
 exact Ot
theorem sW{r:Rg}{z:Int}{k:Nat}{K:V->Prop}(hz:z=(k:Int))(h:k<r.length)(hk:K (vcV (r.getD k z0))):idx (r.map vcV) z.toNat K:=
 gK (l:=r) (getD_some h) Aa hk
theorem kS{r:Rg}{z:Int}{a:Nat}(h:z=(a:Int)):z.tmod ((r.map vcV).length:Int)=((a% r.length:Nat):Int):=by rw[eT0,dX5 h]
theorem aR7(r:Rg)(i:Nat)(hi:i<r.length)(hl:r.length<=1000000):Sp 167 [rgV r,I i] (vcV (iU r i)):=by
 refine zsp Tryz.func167 ?_;have hll:(r.map vcV).length=r.length:=Ae;have hm:(i+1)% r.length<r.length:=Nat.mod_lt _ Aa
 repeat' ((conv=>whnf);first|refine uM Aa ?_|refine aB (l:=r) (by rw[kS (a:=i+1) (by omega)];omega) ?_|refine sW (k:=(i+1)% r.length) (kS Aa) hm ?_|refine zS ?_|fail)
 all_goals exact zE
theorem dJ5(r:Rg)(i:Nat)(hi:i<r.length)(hl:r.length<=1000000):Sp 166 [rgV r,I i] (vcV (mY r i)):=by
 refine zsp Tryz.func166 ?_;have hll:(r.map vcV).length=r.length:=Ae;have hm:(i+r.length-1)% r.length<r.length:=Nat.mod_lt _ Aa
 repeat' ((conv=>whnf);first|refine uM Aa ?_|refine aB (l:=r) (by rw[kS (a:=i+r.length-1) (by omega)];omega) ?_|refine sW (k:=(i+r.length-1)% r.length) (kS Aa) hm ?_|refine zS ?_|fail)
 all_goals exact zE
theorem aU3{r:Rg}{z:Int}{k:Nat}{K:V->Prop}(hz:z=(k:Int))(h:k<r.length)(hk:K (vcV (r.getD k z0))):idx (r.map vcV) z.toNat K:=sW hz h hk
theorem bT2(r:Rg)(hl:r.length<=1000000):Sp 132 [rgV r] (I (zY r)):=by
 refine zsp Tryz.func132 ?_;have hll:(r.map vcV).length=r.length:=Ae
 repeat' ((conv=>whnf);first|refine zS ?_|fail)
 refine lD (A:=Nat) (fun k=>mkSt [(0,rgV r),(3,I (cI8 r k)),(6,rgV r),(7,I r.length),(8,I k)] [] []) (fun k=>k<=r.length) (fun k=>r.length-k) 0 ?_ Aa (fun k hk=>?_)
 ·exact zj
 have hn:=aR7 r k;have hs:=bC2 r k
 by_cases hkr:k<r.length
 ·repeat' ((conv=>whnf);first|(exfalso;omega)|refine aU3 (k:=k) Aa hkr ?_|refine zc (hn hkr hl) ?_|refine zc (kD (r.getD k z0) (iU r k)) ?_|refine zS ?_|refine zT ?_ ?_<;>intro _|fail)
  all_goals conv=>whnf
  refine⟨k+1,?_,Aa,Aa⟩;simp only[hs];exact zj
 ·have e:k=r.length:=by omega
  subst e;exact zF
def aH8(r:Rg)(k:Nat):List Sg:=(List.range k).map (aJ4 r)
theorem cS0(r:Rg)(k:Nat):(aH8 r k).map sgV++[sgV (aJ4 r k)] =(aH8 r (k+1)).map sgV:=by unfold aH8;rw[List.range_succ];simp
theorem bV5(r:Rg)(k:Nat):((aH8 r k).map sgV).length=k:=by unfold aH8;simp
def eX7(r:Rg)(k:Nat):St:=match k with
 |0=>mkSt [(0,rgV r),(3,nilV),(9,rgV r),(10,I r.length),(11,I 0)] [] []
 |k+1=>mkSt [(0,rgV r),(3, .arr 23 k),(9,rgV r),(10,I r.length),(11,I ((k:Int)+1))] [] [(23,⟨k, .own,238,(aH8 r (k+1)).map sgV⟩)]
theorem cK3{r:Rg}(h:r.length<2):bF r=[] :=if_pos h
theorem bA9{r:Rg}(h:¬r.length<2):bF r=aH8 r r.length:=if_neg h
theorem qE(r:Rg)(hl:r.length<=1000000):Sp 168 [rgV r] (.own 238 ((bF r).map sgV)):=by
 refine zsp Tryz.func168 ?_;have hll:(r.map vcV).length=r.length:=Ae;have h1:=cK3 (r:=r)
 have h2:=bA9 (r:=r);by_cases hr:r.length<2
 ·rw[h1 hr]
  repeat' ((conv=>whnf);first|(exfalso;omega)|refine zS ?_|refine zT ?_ ?_<;>intro _|fail)
  all_goals conv=>whnf
  exact⟨⟨⟨of_decide_eq_true Ac,rfl⟩,trivial⟩,rfl,fun _ h=>Ad⟩
 rw[h2 hr]
 repeat' ((conv=>whnf);first|(exfalso;omega)|refine zS ?_|refine zT ?_ ?_<;>intro _|fail)
 refine lD (A:=Nat) (eX7 r) (fun k=>k<=r.length) (fun k=>r.length-k) 0 ?_ Aa (fun k hk=>?_)
 ·exact zj
 have hn:=aR7 r k;have hs:=cS0 r k
 have hlen:=bV5 r k
 match k with
 |0=>
  repeat' ((conv=>whnf);first|(exfalso;omega)|refine aU3 (k:=0) Aa Aa ?_|refine zc (hn Aa hl) ?_|refine fU ⟨of_decide_eq_true Ac,of_decide_eq_true Ac,dA rfl⟩ ?_|refine zS ?_|refine zT ?_ ?_<;>intro _|fail)
  all_goals conv=>whnf
  refine⟨1,?_,Aa,Aa⟩;exact zj
 |k+1=>
  have hlen':=bV5 r (k+1);have h4:(List.map sgV (aH8 r (k+1))).length+1<=1000000000:=Aa
  by_cases hkr:k+1<r.length
  ·repeat' ((conv=>whnf);first|(exfalso;omega)|refine aU3 (k:=k+1) Aa hkr ?_|refine zc (hn hkr hl) ?_|refine iH rfl (.inl rfl) rfl (of_decide_eq_true rfl) (dA rfl) h4 ?_|refine zS ?_|refine zT ?_ ?_<;>intro _|fail)
   all_goals conv=>whnf
   refine⟨k+2,?_,Aa,Aa⟩;show Le T _ (mkSt [(0,rgV r),(3, .arr 23 (k+1)),(9,rgV r),(10,I r.length),(11,I (((k+1:Nat):Int)+1))] [] [(23,⟨k+1, .own,238,(aH8 r (k+1+1)).map sgV⟩)]);rw[<-hs];exact zj
  ·have e:k+1=r.length:=by omega
   rw[<-e];exact NJ
theorem dT0{r:Rg}(h:2<=r.length):(bF r).length=r.length:=by
 rw[bA9 Aa];simp[aH8]
theorem dS{en:AE}{g:Nat}{z:Int}{K:Prop}(h1:en.gen=g)(h2:en.kind= .own)(h3:0<=z/\z<en.l.length)(hk:K):need (en.gen=g/\en.kind≠ .dead/\0<=z/\z<en.l.length) K:=fU ⟨h1,(by rw[h2];exact fun h=>by cases h),h3.1,h3.2⟩ hk
theorem dV6{l:List Sg}{z:Int}{k:Nat}{K:V->Prop}(hz:z=(k:Int))(h:k<l.length)(hk:K (sgV (l.getD k (z0,z0)))):idx (l.map sgV) z.toNat K:=by
 subst hz;refine gK (l:=l) (j:=k) (x:=l.getD k (z0,z0)) ?_ Aa hk;exact Ot
theorem lN(r:Rg)(hl:r.length<=1000000):Sp 129 [rgV r] (DB (dM r)):=by
 refine zsp Tryz.func129 ?_;have hll:(r.map vcV).length=r.length:=Ae;generalize hP:dM r=P;have hr:P↔dM r:=Ik
 unfold dM at hr
 repeat' ((conv=>whnf);first|refine zc (dS7 r hl) ?_|refine zc (bT2 r hl) ?_|refine zS ?_|refine zT ?_ ?_<;>intro _|fail)
 all_goals conv=>whnf
 all_goals first
  |(refine aA (aC ?_);rw[hr];intro h;obtain⟨h1,h2,h3,h4,h5,h6⟩:=h;first|omega|contradiction)
  |skip
 have h3:3<=r.length:=Aa;have h40:r.length<=40:=Aa
 have hn:bR7 r:=Ag;have ha:0<zY r:=Aa
 refine lD (A:=Nat) (fun k=>mkSt [(0,rgV r),(3,I r.length),(27,rgV r),(28,I r.length),(29,I k)] [] []) (fun k=>k<=r.length/\∀i,i<k->kR (mY r i) (r.getD i z0) (iU r i)≠0) (fun k=>r.length-k) 0 ?_ ⟨Aa,fun i hi=>Aa⟩ (fun k hk=>?_)
 ·exact zj
 obtain⟨hk,ht⟩:=hk;have e1:=aR7 r k;have e2:=dJ5 r k
 by_cases hkr:k<r.length
 ·repeat' ((conv=>whnf);first|(exfalso;omega)|refine aU3 (k:=k) Aa hkr ?_|refine zc (e1 hkr hl) ?_|refine zc (e2 hkr hl) ?_|refine zc (aI8 (mY r k) (r.getD k z0) (iU r k)) ?_|refine zS ?_|refine zT ?_ ?_<;>intro _|fail)
  all_goals conv=>whnf
  ·refine aA (aC ?_)
   rw[hr];intro h;exact h.2.2.2.2.1 k hkr Ag
  ·refine⟨k+1,?_,⟨Aa,fun i hi=>?_⟩,Aa⟩
   ·exact zj
   ·by_cases e:i=k
    ·subst e;assumption
    ·exact ht i Aa
 have ek:k=r.length:=Aa;subst ek;have hel:=dT0 (r:=r) Aa
 have hee:=qE r hl;generalize hE:bF r=E at*;have hem:(E.map sgV).length=r.length:=by rw[List.length_map];exact hel
 repeat' ((conv=>whnf);first|(exfalso;omega)|refine zS ?_|refine zT ?_ ?_<;>intro _|fail)
 refine lD (A:=Nat) (fun i=>mkSt [(3,I r.length),(6, .arr 45 0),(46,I r.length),(47,I i)] [] [(45,⟨0, .own,238,E.map sgV⟩)]) (fun i=>i<=r.length/\∀i' k',i'<i->i'<k'->k'<r.length->cZ4 E r.length i' k') (fun i=>r.length-i) 0 ?_ ⟨Aa,fun i' k' hi=>Aa⟩ (fun i hi=>?_)
 ·exact zj
 obtain⟨hi,hap⟩:=hi;by_cases hir:i<r.length
 ·repeat' ((conv=>whnf);first|(exfalso;omega)|refine zS ?_|refine zT ?_ ?_<;>intro _|fail)
  refine lD (A:=Nat) (fun k=>mkSt [(3,I r.length),(6, .arr 45 0),(46,I r.length),(47,I i),(7,I i),(8,I k)] [] [(45,⟨0, .own,238,E.map sgV⟩)]) (fun k=>i<k/\k<=r.length/\∀k',i<k'->k'<k->cZ4 E r.length i k') (fun k=>r.length-k) (i+1) ?_ ⟨Aa,Aa,fun k' h1 h2=>Aa⟩ (fun k hk=>?_)
  ·exact zj
  obtain⟨hk0,hk,hin⟩:=hk;by_cases hkr:k<r.length
  ·repeat' ((conv=>whnf);first|(exfalso;omega)|refine dS rfl rfl (by show 0<=_/\_< ((E.map sgV).length:Int);omega) ?_|refine dV6 (k:=i) Aa Aa ?_|refine dV6 (k:=k) Aa Aa ?_|refine zc (aS9 (E.getD i (z0,z0)) (E.getD k (z0,z0))) ?_|refine zS ?_|refine zT ?_ ?_<;>intro _|fail)
   all_goals conv=>whnf
   all_goals first
    |(refine aA (aC ?_);rw[hr];intro h;exact absurd (h.2.2.2.2.2 i k hk0 hkr Aa Aa) Ag)
    |skip
   all_goals
    refine⟨k+1,?_,⟨Aa,Aa,fun k' h1 h2=>?_⟩,Aa⟩
    ·exact zj
    ·by_cases e:k'=k
     ·subst e
      intro q1 q2
      first|assumption|(exfalso;omega)
     ·exact hin k' h1 Aa
  ·repeat' ((conv=>whnf);first|(exfalso;omega)|refine zS ?_|refine zT ?_ ?_<;>intro _|fail)
   all_goals conv=>whnf
   refine⟨i+1,?_,⟨Aa,fun i' k' h1 h2 h3=>?_⟩,Aa⟩
   ·exact zj
   ·by_cases e:i'=i
    ·subst e
     exact hin k' h2 Aa
    ·exact hap i' k' Aa h2 h3
 ·have ei:i=r.length:=by omega
  subst ei
  repeat' ((conv=>whnf);first|(exfalso;omega)|refine zS ?_|refine zT ?_ ?_<;>intro _|fail)
  all_goals conv=>whnf
  refine aA (fE ?_);rw[hr];exact⟨h3,h40,hn,ha,ht,fun i k h1 h2=>hap i k Aa h1 h2⟩
theorem eA0{r:Rg}(h:dM r):nG r=zY r:=if_pos h
theorem dX4{r:Rg}(h:¬dM r):nG r=0:=if_neg h
theorem aX1(r:Rg)(hl:r.length<=1000000):Sp 85 [rgV r] (I (nG r)):=by
 refine zsp Tryz.func85 ?_;have h1:=eA0 (r:=r);have h2:=dX4 (r:=r)
 generalize nG r=A at*
 repeat' ((conv=>whnf);first|refine zc (lN r hl) ?_|refine zc (bT2 r hl) ?_|refine zS ?_|refine zT ?_ ?_<;>intro _|fail)
 all_goals conv=>whnf
 all_goals first
  |exact aG (h2 Ag).symm
  |exact aG (h1 Ag).symm
theorem cM0(p:Pt)(v:Vc):Sp 249 [vcV v, .fp (ptV p).cells] (vcV (toP p v)):=by
 refine zsp Tryz.func249 ?_;exact Ny
theorem dT8{a b:Bool}:eqBB a b=true↔a=b:=by unfold eqBB;simp
theorem br_ll{a b:Int}{A B:Prop}(h1:(0<=a↔0<=b)->A)(h2:¬(0<=a↔0<=b)->B):branch (eqBB (leB 0 a) (leB 0 b)) A B:=by
 have e:eqBB (leB 0 a) (leB 0 b)=true↔(0<=a↔0<=b):=by rw[dT8,Bool.eq_iff_iff,bV6,bV6]
 exact OH
theorem br_l2{a b:Int}{A B:Prop}(h1:(0<=a↔0<b)->A)(h2:¬(0<=a↔0<b)->B):branch (eqBB (leB 0 a) (ltB 0 b)) A B:=by
 have e:eqBB (leB 0 a) (ltB 0 b)=true↔(0<=a↔0<b):=by rw[dT8,Bool.eq_iff_iff,bV6,dC8]
 exact OH
theorem qB(p:Pt):∀b:Bool,lU p [] b=if b=true then 2 else 0:=fun b=>by unfold lU;rfl
theorem oP{p:Pt}{e:Sg}{es:List Sg}{b:Bool}(h:onE p e):lU p (e::es) b=1:=by
 rw[lU,if_pos h]
theorem rE{p:Pt}{e:Sg}{es:List Sg}{b:Bool}(h:¬onE p e)(h2:rW p e):lU p (e::es) b=lU p es (!b):=by
 rw[lU,if_neg h,if_pos h2]
theorem jD{p:Pt}{e:Sg}{es:List Sg}{b:Bool}(h:¬onE p e)(h2:¬rW p e):lU p (e::es) b=lU p es b:=by
 rw[lU,if_neg h,if_neg h2]
theorem eA4{r:Rg}{p:Pt}(h:¬dM r\/¬wJ p):iF r p=0:=if_neg (fun q=>by rcases h with h|h<;>simp_all)
theorem aD9{r:Rg}{p:Pt}(h:dM r)(h2:wJ p):iF r p=lU p (bF r) false:=if_pos ⟨h,h2⟩
theorem aB7(r:Rg)(p:Pt)(hl:r.length<=1000000):Sp 211 [rgV r,ptV p] (I (iF r p)):=by
 refine zsp Tryz.func211 ?_;have h1:=eA4 (r:=r) (p:=p);have h2:=aD9 (r:=r) (p:=p)
 have hee:=qE r hl;generalize iF r p=A at*;generalize hE:bF r=E at*
 repeat' ((conv=>whnf);first|refine zc (lN r hl) ?_|refine zc (bW9 p) ?_|refine zc hee ?_|refine zS ?_|refine zT ?_ ?_<;>intro _|fail)
 all_goals conv=>whnf
 all_goals first
  |exact aG (h1 FU).symm
  |skip
 have hA:=h2 Ag Ag;clear h1 h2
 have hEl:E.length<=1000000:=by
  rw[<-hE];unfold bF;split<;>simp;omega
 clear hE hee;refine oU (A:=List Sg) (B:=List Sg) (C:=Bool) (fun D R b=>mkSt [(5, .fn 249 [.fp (ptV p).cells]),(6, .lit (.bool b)),(23, .arr 23 0),(24,I E.length),(25,I D.length)] [] [(23,⟨0, .own,238,E.map sgV⟩)]) (fun D R b=>E=D++R/\A=lU p R b) (fun D R b=>R.length) [] E false ?_ ⟨rfl,hA⟩ (fun D R b hp=>?_)
 ·exact Iw
 obtain⟨hp,hw⟩:=hp
 cases R with
 |nil=>
  have hlen:E.length=D.length:=Af;rw[qB]at hw
  repeat' ((conv=>whnf);first|(exfalso;omega)|refine zS ?_|refine zT ?_ ?_<;>intro _|fail)
  all_goals conv=>whnf
  all_goals exact aG (by rw[hw];simp[*])
 |cons e R=>
  have hlen:=aO hp;have w1:=oP (p:=p) (e:=e) (es:=R) (b:=b)
  have w2:=rE (p:=p) (e:=e) (es:=R) (b:=b);have w3:=jD (p:=p) (e:=e) (es:=R) (b:=b)
  rw[<-hw]at w1 w2 w3;have hc:=kD (vsub e.2 e.1) (toP p e.1);have hon:onE p e↔bZ (vsub e.2 e.1) (toP p e.1)=0/\_:=Iff.rfl
  have hfl:rW p e↔¬(0<=(toP p e.1).2↔0<=(toP p e.2).2)/\(0<=(toP p e.1).2↔0<bZ (vsub e.2 e.1) (toP p e.1)):=Iff.rfl;simp only[<-lH,<-mG]at hon;generalize bZ (vsub e.2 e.1) (toP p e.1)=side at*;have ha:=cM0 p e.1
  have hb:=cM0 p e.2;generalize toP p e.1=a at*;generalize toP p e.2=c at*
  repeat' ((conv=>whnf);first|(exfalso;omega)|refine dS rfl rfl (by show 0<=_/\_< ((E.map sgV).length:Int);rw[List.length_map];omega) ?_|refine aF (l:=E) (A:=D) (x:=e) (B:=R) hp Aa ?_|refine zc ha ?_|refine zc hb ?_|refine zc (fF e.2 e.1) ?_|refine zc hc ?_|refine br_ll (fun hbb=>?_) (fun hbb=>?_)|refine br_l2 (fun hbb=>?_) (fun hbb=>?_)|refine zS ?_|refine zT ?_ ?_<;>intro _|fail)
  all_goals conv=>whnf
  all_goals first
   |exact aG (w1 (hon.2 ⟨Aa,Aa,Aa,Aa,Aa⟩)).symm
   |skip
  all_goals
   first
   |(refine⟨(D++[e],R, !b),?_,⟨Af,w2 (fun q=>by have q:=hon.1 q;omega) (hfl.2 ⟨Ag,Ag⟩)⟩,Ae⟩)
   |(refine⟨(D++[e],R,b),?_,⟨Af,w3 (fun q=>by have q:=hon.1 q;omega) (fun q=>by obtain⟨q1,q2⟩:=hfl.1 q;contradiction)⟩,Ae⟩)
   exact Nh
theorem aC1{r:Rg}{v:Vc}(h:within v 4000):fJ r v=iF r (v.1,v.2,1):=if_pos h
theorem eA7{r:Rg}{v:Vc}(h:¬within v 4000):fJ r v=0:=if_neg h
theorem cL0(r:Rg)(v:Vc)(hl:r.length<=1000000):Sp 172 [rgV r,vcV v] (I (fJ r v)):=by
 refine zsp Tryz.func172 ?_;have h1:=aC1 (r:=r) (v:=v);have h2:=eA7 (r:=r) (v:=v)
 generalize fJ r v=A at*
 repeat' ((conv=>whnf);first|refine zc (kC v 4000) ?_|refine zc (zN v) ?_|refine zc (aB7 r (v.1,v.2,1) hl) ?_|refine zS ?_|refine zT ?_ ?_<;>intro _|fail)
 all_goals conv=>whnf
 all_goals first
  |exact aG (h2 Ag).symm
  |exact aG (h1 Ag).symm
open Classical in
def boxR(r:Rg):Bx×Bool:=if dM r then aC7 r else(((0,0),(0,0)),false)
theorem dX3{r:Rg}(h:dM r):boxR r=aC7 r:=if_pos h
theorem eX2{r:Rg}(h:¬dM r):boxR r=(((0,0),(0,0)),false):=if_neg h
theorem dL2(r:Rg)(hl:r.length<=1000000):Sp 150 [rgV r] (.tup [bxV (boxR r).1, .lit (.bool (boxR r).2)]):=by
 refine zsp Tryz.func150 ?_;have h1:=dX3 (r:=r);have h2:=eX2 (r:=r)
 have hb:=bI9 r hl;generalize boxR r=A at*;generalize aC7 r=B at*
 repeat' ((conv=>whnf);first|refine zc (lN r hl) ?_|refine zS ?_|refine zd (fun hd=>?_) (fun hd=>?_))
 ·rw[h1 hd]
  all_goals exact zE
 ·rw[h2 hd]
  all_goals exact zE
theorem eL0{r:Rg}{k:Nat}(h:k<r.length):r.take (k+1)=r.take k++[r.getD k z0] :=by
 rw[List.take_add_one,getD_some h];rfl
theorem eA2(a b:Rg)(ha:a.length<=1000000)(hb:b.length<=1000000):Sp 223 [rgV a,rgV b] (DB (a=b)):=by
 refine zsp Tryz.func223 ?_;have hla:(a.map vcV).length=a.length:=Ae;have hlb:(b.map vcV).length=b.length:=Ae
 repeat' ((conv=>whnf);first|refine zS ?_|refine zT ?_ ?_<;>intro _|fail)
 all_goals conv=>whnf
 all_goals first
  |(refine aA (aC ?_);intro h;subst h;omega)
  |skip
 have hab:a.length=b.length:=Aa;refine lD (A:=Nat) (fun k=>mkSt [(0,rgV a),(1,rgV b),(11,rgV a),(12,I a.length),(13,I k)] [] []) (fun k=>k<=a.length/\a.take k=b.take k) (fun k=>a.length-k) 0 ?_ ⟨Aa,rfl⟩ (fun k hk=>?_)
 ·exact zj
 obtain⟨hk,ht⟩:=hk;by_cases hkr:k<a.length
 ·repeat' ((conv=>whnf);first|(exfalso;omega)|refine aU3 (r:=a) (k:=k) Aa Aa ?_|refine aU3 (r:=b) (k:=k) Aa Aa ?_|refine aT1 ?_|refine aB4 (fun hv=>?_) (fun hv=>?_)|refine zS ?_|refine zT ?_ ?_<;>intro _|fail)
  all_goals conv=>whnf
  ·refine⟨k+1,?_,⟨Aa,?_⟩,Aa⟩
   ·exact zj
   ·rw[eL0 Aa,eL0 Aa,ht,hv]
  ·refine aA (aC ?_)
   intro h;subst h;exact hv rfl
 ·have ek:k=a.length:=by omega
  repeat' ((conv=>whnf);first|(exfalso;omega)|refine zS ?_|refine zT ?_ ?_<;>intro _|fail)
  all_goals conv=>whnf
  exact OC
theorem wF(m x:Vc)(l:List Vc):sQ m (x::l)=sQ (open Classical in if kF x m then x else m) l:=by rw[sQ]
theorem cL6(r:Rg)(hl:r.length<=1000000)(h0:r≠ []):Sp 224 [rgV r, .fn 189 []] (vcV (wO r)):=by
 refine zsp Tryz.func224 ?_;have hll:(r.map vcV).length=r.length:=Ae;have hpos:1<=r.length:=by cases r with|nil=>exact absurd rfl h0|cons x l=>simp
 obtain⟨x,l,hr⟩:∃x l,r=x::l:=by cases r with|nil=>exact absurd rfl h0|cons x l=>exact⟨x,l,rfl⟩
 have hle:wO r=sQ x l:=by rw[hr];rfl
 repeat' ((conv=>whnf);first|(exfalso;omega)|refine aF (l:=r) (A:=[]) (x:=x) (B:=l) hr rfl ?_|refine zS ?_|refine zl (fun hlt=>?_) (fun hlt=>?_))
 refine oU (A:=List Vc) (B:=List Vc) (C:=Vc) (fun D R m=>mkSt [(0,rgV r),(1, .fn 189 []),(4, .box 4 0),(5, .box 5 0),(6,I D.length)] [(4,[I 0,I 0]),(5,(vcV m).cells)] []) (fun D R m=>r=D++R/\wO r=sQ m R/\1<=D.length) (fun D R m=>R.length) [x] l x ?_ ⟨hr,hle,Ae⟩ (fun D R m hp=>?_)
 ·exact zj
 obtain⟨hp,hm,hD⟩:=hp
 cases R with
 |nil=>
  have hlen:r.length=D.length:=Af;rw[hm];exact Oq
 |cons y R=>
  have hlen:=aO hp;rw[wF]at hm
  repeat' ((conv=>whnf);first|(exfalso;omega)|refine zc (qI y m) ?_|refine zS ?_|refine zl (fun hlt=>?_) (fun hlt=>?_))
  all_goals conv=>whnf
  ·refine⟨(D++[y],R,y),?_,⟨Af,by rw[hm,if_pos (show kF y m from hlt)],Ae⟩,Ae⟩
   exact Nh
  ·refine⟨(D++[y],R,m),?_,⟨Af,by rw[hm,if_neg (show¬kF y m by unfold kF;omega)],Ae⟩,Ae⟩
   exact Nh
def bZ1(v:Vc)(r:Rg):Int:=match sN v r 0 with|some j=>j|none=> -1
theorem cJ4(r:Rg)(v:Vc)(hl:r.length<=1000000):Sp 225 [rgV r,vcV v] (I (bZ1 v r)):=by
 refine zsp Tryz.func225 ?_;have hll:(r.map vcV).length=r.length:=Ae;unfold bZ1
 repeat' ((conv=>whnf);first|refine zS ?_|fail)
 refine aU (A:=List Vc) (B:=List Vc) (fun D R=>mkSt [(0,rgV r),(3, .box 3 0),(6,rgV r),(7,I r.length),(8,I D.length)] [(3,(vcV v).cells)] []) (fun D R=>r=D++R/\sN v r 0=sN v R D.length) (fun D R=>R.length) [] r ?_ ⟨rfl,rfl⟩ (fun D R hp=>?_)
 ·exact zj
 obtain⟨hp,hm⟩:=hp
 cases R with
 |nil=>
  have hlen:r.length=D.length:=Af
  repeat' ((conv=>whnf);first|(exfalso;omega)|refine zS ?_|refine zT ?_ ?_<;>intro _|fail)
  all_goals conv=>whnf
  exact aG (by rw[hm];rfl)
 |cons y R=>
  have hlen:=aO hp;rw[sN]at hm
  repeat' ((conv=>whnf);first|(exfalso;omega)|refine aT1 ?_|refine aB4 (fun hv=>?_) (fun hv=>?_)|refine zS ?_|refine zT ?_ ?_<;>intro _|fail)
  all_goals conv=>whnf
  ·exact aG (by rw[hm,if_pos hv])
  ·rw[if_neg hv]at hm
   refine⟨(D++[y],R),?_,⟨Af,by rw[hm];simp⟩,Ae⟩
   exact Nh
theorem fB6{g:FuncId}{c d:List V}{Q:Vc->Prop}(hg:∀m,Sp g (vcV m:: [.fp c, .fp d]) (DB (Q m)))(l:List Vc)(hl:l.length<=1000000):fnVC T Tryz.prog Tryz.f210 [.sl (l.map vcV), .fn g [.fp c, .fp d]] (I (fstI Q l)):=by
 have hll:(l.map vcV).length=l.length:=Ae
 repeat' ((conv=>whnf);first|refine zS ?_|fail)
 refine aU (A:=List Vc) (B:=List Vc) (fun D R=>mkSt [(0, .sl (l.map vcV)),(1, .fn g [.fp c, .fp d]),(7,I l.length),(8,I D.length)] [] [])
  (fun D R=>l=D++R/\∀m∈D,¬Q m) (fun D R=>R.length) [] l ?_ ⟨rfl,Ae⟩ (fun D R hp=>?_)
 ·exact zj
 ·obtain⟨h1,h2⟩:=hp
  have hlen:l.length=D.length+R.length:=Bj;have hD:∀y∈D,(!decB (Q y))=true:=fun y hy=>D8
  cases R with
  |nil=>
   have e:l=D:=Bj;simp at hlen
   repeat' ((conv=>whnf);first|(exfalso;omega)|refine zS ?_|refine zl (fun hlt=>?_) (fun hlt=>?_))
   conv=>whnf
   refine aG ?_;unfold fstI;rw[if_neg (iO.2 Gj)]
  |cons x R=>
   rw[List.length_cons]at hlen
   repeat' ((conv=>whnf);first|(exfalso;omega)|refine aF (l:=l) (A:=D) (x:=x) (B:=R) h1 Aa ?_|refine zc (hg x) ?_|refine zS ?_|refine zd (fun hd=>?_) (fun hd=>?_)|refine zl (fun hlt=>?_) (fun hlt=>?_))
   ·conv=>whnf
    refine aG ?_;have e:fst Q l=D.length:=AV;unfold fstI;rw[e,if_pos Aa]
   ·conv=>whnf
    refine⟨(D++[x],R),?_,⟨?_,?_⟩,?_⟩
    ·refine dV ?_ ?_ ?_ ?_
     all_goals repeat' (first|exact trivial|refine And.intro ?_ ?_|with_reducible rfl|exact(fun h=>Ad)|exact Nat.le_refl _|omega|exact rfl)
     ·show(D.length:Int)+1=(D++[x]).length
      simp
    ·show l=D++[x] ++R
     rw[h1];simp
    ·intro m hm
     rcases List.mem_append.1 hm with hm|hm
     ·exact h2 m hm
     ·rw[List.mem_singleton.1 hm];exact hd
    ·show R.length< (x::R).length
     simp
theorem eH6{g:FuncId}{c d:List V}{Q:Vc->Prop}(hg:∀m,Sp g (vcV m:: [.fp c, .fp d]) (DB (Q m)))(l:List Vc)(hl:l.length<=1000000):Sp 210 [.sl (l.map vcV), .fn g [.fp c, .fp d]] (I (fstI Q l)):=zsp Tryz.func210 (fB6 hg l hl)
theorem fB1{g:FuncId}{c d:List V}{Q:Vc->Prop}(hg:∀m,Sp g (vcV m:: [.fp c, .fp d]) (DB (Q m)))(l:List Vc)(hl:l.length<=1000000):fnVC T Tryz.prog Tryz.f170 [.sl (l.map vcV), .fn g [.fp c, .fp d]] (DB (∃m∈l,Q m)):=by
 repeat' ((conv=>whnf);first|refine zc (eH6 hg l hl) ?_|refine zS ?_|fail)
 exact MV
theorem eC1{g:FuncId}{c d:List V}{Q:Vc->Prop}(hg:∀m,Sp g (vcV m:: [.fp c, .fp d]) (DB (Q m)))(l:List Vc)(hl:l.length<=1000000):Sp 170 [.sl (l.map vcV), .fn g [.fp c, .fp d]] (DB (∃m∈l,Q m)):=zsp Tryz.func170 (fB1 hg l hl)
theorem dR4(b:Rg)(n:Int)(hb:b.length<=1000000)(v:Vc):Sp 171 [vcV v, .fp [rgV b], .fp [I n]] (DB (¬fJ b v=n)):=by
 refine zsp Tryz.func171 ?_
 repeat' ((conv=>whnf);first|refine zc (cL0 b v hb) ?_|refine zS ?_|fail)
 all_goals conv=>whnf
 all_goals refine aA (aF6 ?_)
 all_goals exact dY0
theorem tX(r b:Rg)(n:Int)(hr:r.length<=1000000)(hb:b.length<=1000000):Sp 130 [rgV r,rgV b,I n] (DB (pR r b n)):=by
 refine zsp Tryz.func130 ?_
 repeat' ((conv=>whnf);first|refine zc (eC1 (fun v=>dR4 b n hb v) r hr) ?_|refine zS ?_|fail)
 all_goals conv=>whnf
 all_goals refine aA (aF6 ?_)
 rw[dW];unfold pR;constructor
 ·intro h v hv
  exact P6
 ·rintro h ⟨v,hv,hn⟩
  exact hn (h v hv)
theorem aK9{r:Rg}(h:r.length<=1000000):(bF r).length<=1000000:=by
 unfold bF;split<;>simp;omega
theorem vS(a b:Rg)(ha:a.length<=1000000)(hb:b.length<=1000000):Sp 131 [rgV a,rgV b] (DB (uV a b)):=by
 refine zsp Tryz.func131 ?_;have hea:=qE a ha;have heb:=qE b hb
 have hla:=aK9 ha;have hlb:=aK9 hb
 generalize hP:uV a b=P;have hr:P↔uV a b:=Ik;unfold uV at hr;generalize bF a=A at*;generalize bF b=B at*
 repeat' ((conv=>whnf);first|refine zc hea ?_|refine zS ?_|fail)
 refine aU (A:=List Sg) (B:=List Sg) (fun D R=>mkSt [(1,rgV b),(10, .arr 10 0),(11,I A.length),(12,I D.length)] [] [(10,⟨0, .own,238,A.map sgV⟩)]) (fun D R=>A=D++R/\∀x∈D,∀y∈B,dG x y=0) (fun D R=>R.length) [] A ?_ ⟨rfl,Ae⟩ (fun D R hp=>?_)
 ·exact Iw
 obtain⟨hp,hD⟩:=hp
 cases R with
 |nil=>
  have hlen:A.length=D.length:=Af
  repeat' ((conv=>whnf);first|(exfalso;omega)|refine zS ?_|refine zT ?_ ?_<;>intro _|fail)
  all_goals conv=>whnf
  refine aA (fE (hr.2 ?_));rw[hp,List.append_nil];exact hD
 |cons x R=>
  have hlen:=aO hp
  repeat' ((conv=>whnf);first|(exfalso;omega)|refine dS rfl rfl CU ?_|refine aF (l:=A) (A:=D) (x:=x) (B:=R) hp Aa ?_|refine zc heb ?_|refine zS ?_|refine zT ?_ ?_<;>intro _|fail)
  refine aU (A:=List Sg) (B:=List Sg) (fun E S=>mkSt [(1,rgV b),(6, .box 6 0),(10, .arr 10 0),(11,I A.length),(12,I D.length),(17, .arr 17 0),(18,I B.length),(19,I E.length)] [(6,(sgV x).cells)] [(10,⟨0, .own,238,A.map sgV⟩),(17,⟨0, .own,238,B.map sgV⟩)]) (fun E S=>B=E++S/\∀y∈E,dG x y=0) (fun E S=>S.length) [] B ?_ ⟨rfl,Ae⟩ (fun E S hq=>?_)
  ·exact Iw
  obtain⟨hq,hE⟩:=hq
  cases S with
  |nil=>exact ML
  |cons y S=>
   have hlen2:=aO hq
   repeat' ((conv=>whnf);first|(exfalso;omega)|refine dS rfl rfl CV ?_|refine aF (l:=B) (A:=E) (x:=y) (B:=S) hq Aa ?_|refine zc (aS9 x y) ?_|refine zS ?_|refine zT ?_ ?_<;>intro _|fail)
   all_goals conv=>whnf
   all_goals first
    |(refine aA (aC ?_);rw[hr];intro h;exact absurd (h x Af y AL) Ag)
    |skip
   exact OL
theorem eE1{T:Tab}{σ:St}{x:ItC}{k:Option Nat}{Q:ItQ}{A B:Type}(st:A->B->St)(kk:A->B->Option Nat)(inv:A->B->Prop)(m:A->B->Nat)(a0:A)(b0:B)(h0:Le T σ (st a0 b0))(h1:inv a0 b0)(hk:kk a0 b0=k)(h:∀a b,inv a b->x (kk a b) (st a b) fun e k' σ'=>match e with
 | .normal=>∃p':A×B,Le T σ' (st p'.1 p'.2)/\inv p'.1 p'.2/\kk p'.1 p'.2=k'/\m p'.1 p'.2<m a b
 |e=>Q e k' σ'):bX4 T x k σ Q:=
 eD4 (A:=A×B) (fun p=>st p.1 p.2) (fun p=>kk p.1 p.2) (fun p=>inv p.1 p.2) (fun p=>m p.1 p.2) (a0,b0) h0 h1 hk (fun p hp=>h p.1 p.2 hp)
def iI(s:Sh):List (List V):=(rings s).map fun r=> [rgV r]
theorem eE3(s:Sh):(iI s)[0]? =some [rgV s.outer] :=rfl
theorem dK1{s:Sh}{D R:List Rg}{h:Rg}(hp:s.holes=D++h::R):(iI s)[D.length+1]? =some [rgV h] :=by
 unfold iI rings;rw[List.getElem?_map,List.getElem?_cons_succ,hp];simp
theorem dD3(r:Rg):bM [rgV r] :=by
 refine aH.2 (fun y hy=>?_);rw[List.mem_singleton.1 hy];unfold rgV;simp only[V.ok];exact aH.2 (fun z hz=>by obtain⟨v,_,rfl⟩:=List.mem_map.1 hz;simp[vcV,I,V.ok,V.okL])
theorem dW4(s:Sh)(hl:s.holes.length<=1000000):itVC T Tryz.prog Tryz.f133 [.fp (shV s).cells] (iI s):=by
 intro l;have hil:(iI s).length=s.holes.length+1:=by unfold iI rings;simp
 repeat' ((conv=>whnf);first|refine cD0 ?_|refine dE2 (eE3 s) (dD3 _) ?_ ?_|refine zS ?_|fail)
 all_goals conv=>whnf
 all_goals first
  |exact trivial
  |skip
 refine eE1 (A:=List Rg) (B:=List Rg) (fun D R=>mkSt [(0, .lit (.func (.yield l) ⟨[]⟩ ⟨[]⟩)),(1, .fp (shV s).cells),(11, .sl (s.holes.map rgV)),(12,I s.holes.length),(13,I D.length)] [] []) (fun D R=>some (D.length+1)) (fun D R=>s.holes=D++R) (fun D R=>R.length) [] s.holes ?_ rfl rfl (fun D R hp=>?_)
 ·exact Ip
 have hmm:(s.holes.map rgV).length=s.holes.length:=Ae
 cases R with
 |nil=>
  have hlen:s.holes.length=D.length:=Af
  repeat' ((conv=>whnf);first|(exfalso;omega)|refine cD0 ?_|refine zT ?_ ?_<;>intro _|refine zS ?_|fail)
  all_goals conv=>whnf
  show D.length+1=(iI s).length;omega
 |cons h R=>
  have hlen:=aO hp
  repeat' ((conv=>whnf);first|(exfalso;omega)|refine cD0 ?_|refine dE2 (dK1 hp) (dD3 _) ?_ ?_|refine zS ?_|refine zT ?_ ?_<;>intro _|fail)
  all_goals conv=>whnf
  all_goals first
   |exact trivial
   |skip
  refine⟨(D++[h],R),?_,Af,Ae,Ae⟩;exact Nh
theorem vJ(s:Sh)(hl:s.holes.length<=1000000):aB0 T Tryz.prog 133 [.fp (shV s).cells] (iI s):=
 dZ5 uG mixed Tryz.func133 Ac (Nat.le_of_ble_eq_true Ac) Ac (dW4 s hl)
theorem rQ(s:Sh):Sp 86 [shV s] (.fn 133 [.fp (shV s).cells]):=by
 refine zsp Tryz.func86 ?_
 repeat' ((conv=>whnf);first|refine zS ?_|fail)
 all_goals conv=>whnf
 exact⟨by(repeat' (first|exact trivial|refine And.intro ?_ ?_|with_reducible rfl|exact(fun h=>Ad)|exact rfl));done,rfl,fun rs h=>V.noConfusion h⟩
theorem aM3{T:Tab}{P:Program}{σ:St}{f:Operand}{g:FuncId}{caps:List V}{ps wr:List Nat}{x y:aA2}{Q:Exit->St->Prop}(items:List (List V))(hs:aB0 T P g caps items)(hl:∀it∈items,it.length=ps.length){A B:Type}(st:A->B->St)(inv:Nat->A->B->Prop)(a0:A)(b0:B)
 (h0:Le T σ (st a0 b0))(h1:inv 0 a0 b0)(hf:(st a0 b0).ev f= .fn g caps)(h:∀k a b it,inv k a b->items[k]? =some it->x ⟨cM2 ps it (st a b).env,(st a b).bx,(st a b).ar⟩ fun e σ1=>match e with
  | .normal=>y σ1 fun e σ2=>match e with
    | .normal=>∃p':A×B,Le T (sJ wr σ2) (st p'.1 p'.2)/\inv (k+1) p'.1 p'.2
    | .ret=>Q .ret (sJ wr σ2)
    | .exit i=>Q (.exit i) (sJ wr σ2)
    |_=>False
  |_=>False)(he:∀a b,inv items.length a b->Q .normal (st a b)):aO0 T P f g caps ps wr x y σ Q:=
 eS1 items hs hl (A:=A×B) (fun p=>st p.1 p.2) (fun k p=>inv k p.1 p.2) (a0,b0) h0 h1 hf (fun k p it=>h k p.1 p.2 it) (fun p=>he p.1 p.2)
theorem idx_eq{α:Type}{f:α->V}{xs:List V}{l A B:List α}{x:α}{i:Nat}{K:V->Prop}(hx:xs=l.map f)(h:l=A++x::B)(hi:i=A.length)(hk:K (f x)):idx xs i K:=by
 subst hx;exact aF h hi hk
def gV(s:Sh):Prop:=s.outer.length<=1000000/\s.holes.length<=1000000/\∀h∈s.holes,h.length<=1000000
theorem gV.mem{s:Sh}(h:gV s){r:Rg}(hr:r∈rings s):r.length<=1000000:=by
 exact OQ
theorem vC(s:Sh):∀it∈iI s,it.length=1:=fun it h=>by
 obtain⟨r,_,rfl⟩:=List.mem_map.1 h;rfl
theorem aE4{s:Sh}{D R:List Rg}{it:List V}(hp:rings s=D++R)(h:(iI s)[D.length]? =some it):∃r R',R=r::R'/\it=[rgV r] :=by
 unfold iI at h;rw[hp,List.getElem?_map]at h
 cases R with
 |nil=>simp at h
 |cons r R'=>
  refine⟨r,R',rfl,?_⟩;simp at h;exact h.symm
theorem aN4(D:List Rg)(r:Rg):corners (D++[r])=corners D+r.length:=by unfold corners;simp
theorem zF9{D:List Rg}(h:∀r∈D,dM r):corners D<=40*D.length:=by
 induction D with
 |nil=>simp[corners]
 |cons d D ih=>
  have h1:=(h d Ae).2.1;have h2:=ih (fun r hr=>h r (by simp[hr]))
  have e:corners (d::D)=d.length+corners D:=by unfold corners;simp
  rw[e,List.length_cons];omega
theorem kK(s:Sh)(hs:gV s):Sp 84 [shV s] (DB (bG s)):=by
 refine zsp Tryz.func84 ?_;have hmm:(s.holes.map rgV).length=s.holes.length:=Ae;generalize hP:bG s=P;have hr:P↔bG s:=Ik
 unfold bG at hr
 repeat' ((conv=>whnf);first|refine zc (rQ s) ?_|refine zS ?_|refine zT ?_ ?_<;>intro _|fail)
 all_goals conv=>whnf
 all_goals first
  |(refine aA (aC ?_);rw[hr];intro h;obtain⟨h1,h2,h3,h4⟩:=h;first|omega|contradiction)
  |skip
 have h6:s.holes.length<=6:=Aa
 refine aM3 (iI s) (vJ s Aa) (vC s) (A:=List Rg) (B:=List Rg) (fun D R=>mkSt [(1, .box 1 0),(2, .box 2 0),(3, .box 3 0),(14, .fn 133 [.fp (shV s).cells])] [(1,(shV s).cells),(2,[.lit (.bool false)]),(3,[I (corners D)])] [])
  (fun k D R=>rings s=D++R/\D.length=k/\∀r∈D,dM r) [] (rings s) ?_ ⟨rfl,rfl,Ae⟩ rfl ?_ ?_
 ·exact zj
 ·rintro k D R it ⟨hp,hk,hD⟩ hit
  subst hk;obtain⟨r,R',rfl,rfl⟩:=aE4 hp hit;have hlen:=aO hp;have hlr:(rings s).length=s.holes.length+1:=Bl
  have hrl:r.length<=1000000:=hs.mem Af;have hc:=zF9 hD
  have hll:(r.map vcV).length=r.length:=Ae;have ec:((corners (D++[r]):Nat):Int)=(corners D:Int)+((r.map vcV).length:Nat):=by rw[aN4,hll];simp
  repeat' ((conv=>whnf);first|refine zc (lN r hrl) ?_|refine zS ?_|refine zT ?_ ?_<;>intro _|fail)
  all_goals conv=>whnf
  ·refine⟨(D++[r],R'),?_,Af,Ae,fun q hq=>?_⟩
   ·simp only[ec]
    exact zj
   ·exact Lh
  ·refine aA (aC ?_)
   rw[hr];intro h;exact absurd (h.2.1 r Af) Ag
 ·rintro D R ⟨hp,hk,hD⟩
  have hRn:R=[] :=IB;subst hRn;rw[List.append_nil]at hp;subst hp;clear hk;have hlr:(rings s).length=s.holes.length+1:=Bl
  have hc:=zF9 hD
  repeat' ((conv=>whnf);first|refine zS ?_|refine zT ?_ ?_<;>intro _|fail)
  all_goals conv=>whnf
  all_goals first
   |(refine aA (aC ?_);rw[hr];intro h;obtain⟨h1,h2,h3,h4⟩:=h;first|omega|contradiction)
   |skip
  have h80:corners (rings s)<=80:=Aa;have hr2:P↔qR s.outer [] s.holes:=hr.trans ⟨fun h=>h.2.2.2,fun h=>⟨h6,hD,h80,h⟩⟩
  refine aU (A:=List Rg) (B:=List Rg) (fun D R=>mkSt [(1, .box 1 0),(2, .box 2 0),(26, .sl (s.holes.map rgV)),(27,I s.holes.length),(28,I D.length)] [(1,(shV s).cells),(2,[.lit (.bool false)])] []) (fun D R=>s.holes=D++R/\(P↔qR s.outer D R)) (fun D R=>R.length) [] s.holes ?_ ⟨rfl,hr2⟩ (fun D R hp=>?_)
  ·exact Ip
  obtain⟨hp,hP2⟩:=hp
  cases R with
  |nil=>
   have hlen:s.holes.length=D.length:=Af
   repeat' ((conv=>whnf);first|(exfalso;omega)|refine zS ?_|refine zT ?_ ?_<;>intro _|fail)
   all_goals conv=>whnf
   exact aA (fE (hP2.2 trivial))
  |cons h R=>
   have hlen:=aO hp;have hhl:h.length<=1000000:=hs.2.2 h Af
   rw[qR]at hP2;unfold cU0 at hP2;have htk:((s.holes.map rgV).take ((D.length:Nat):Int).toNat)=D.map rgV:=by rw[Int.toNat_natCast,hp];simp
   repeat' ((conv=>whnf);first|(exfalso;omega)|refine zc (tX h s.outer 2 hhl hs.1) ?_|refine zc (vS h s.outer hhl hs.1) ?_|refine fU ⟨Aa,Aa,Aa, .inl rfl⟩ ?_|refine zS ?_|refine zT ?_ ?_<;>intro _|fail)
   all_goals conv=>whnf
   all_goals first
    |(refine aA (aC ?_);rw[hP2];intro h;obtain⟨⟨h1,h2,h3⟩,h4⟩:=h;contradiction)
    |skip
   refine aU (A:=List Rg) (B:=List Rg) (fun E S=>mkSt [(1, .box 1 0),(2, .box 2 0),(6,rgV h),(26, .sl (s.holes.map rgV)),(27,I s.holes.length),(28,I D.length),(48, .sl (List.drop (Int.toNat 0) (List.take ((D.length:Nat):Int).toNat (List.map rgV s.holes)))),(49,I (List.drop (Int.toNat 0) (List.take ((D.length:Nat):Int).toNat (List.map rgV s.holes))).length),(50,I E.length)] [(1,(shV s).cells),(2,[.lit (.bool false)])] []) (fun E S=>D=E++S/\∀k∈E,uV h k/\pR h k 0/\pR k h 0) (fun E S=>S.length) [] D ?_ ⟨rfl,Ae⟩ (fun E S hq=>?_)
   ·exact zj
   obtain⟨hq,hE⟩:=hq;have hX:(List.drop (Int.toNat 0) (List.take ((D.length:Nat):Int).toNat (List.map rgV s.holes)))=D.map rgV:=htk;have hXl:(List.drop (Int.toNat 0) (List.take ((D.length:Nat):Int).toNat (List.map rgV s.holes))).length=D.length:=by rw[hX,List.length_map]
   cases S with
   |nil=>
    have hlen2:D.length=E.length:=AL;have hDE:D=E:=AL
    repeat' ((conv=>whnf);first|(exfalso;omega)|refine zS ?_|refine zT ?_ ?_<;>intro _|fail)
    all_goals conv=>whnf
    refine⟨(D++[h],R),?_,⟨Af,?_⟩,Ae⟩
    ·exact IA
    ·exact Me
   |cons k S=>
    have hlen2:=aO hq;have hkl:k.length<=1000000:=hs.2.2 k (by rw[hp,hq];simp)
    repeat' ((conv=>whnf);first|(exfalso;omega)|refine idx_eq (l:=D) (A:=E) (x:=k) (B:=S) hX hq Aa ?_|refine zc (vS h k hhl hkl) ?_|refine zc (tX h k 0 hhl hkl) ?_|refine zc (tX k h 0 hkl hhl) ?_|refine zS ?_|refine zT ?_ ?_<;>intro _|fail)
    all_goals conv=>whnf
    all_goals first
     |(refine aA (aC ?_);rw[hP2];intro q;have q1:=q.1.2.2 k AL;obtain⟨q2,q3,q4⟩:=q1;contradiction)
     |skip
    refine⟨(E++[k],S),?_,⟨AL,fun z hz=>?_⟩,Ae⟩
    ·exact IA
    ·exact KO
end Go.Proofs.Led
