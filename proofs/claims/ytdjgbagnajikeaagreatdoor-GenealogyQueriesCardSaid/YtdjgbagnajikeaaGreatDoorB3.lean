/-
  Rings: corners, area, edges, walked.
-/
import Derived.Test.YtdjgbagnajikeaaGreatDoorSV4
import Derived.Test.YtdjgbagnajikeaaGreatDoorA15
set_option linter.unusedVariables false
set_option linter.unusedSimpArgs false
set_option maxRecDepth 100000
set_option maxHeartbeats 4000000
noncomputable section
namespace Go.Proofs.Led
open Go Go.Proofs Go.Ab
theorem fB5{g:FuncId}{Q:Vc->Prop}(hg:∀m,Sp g (vcV m:: []) (DB (Q m)))(l:List Vc)(hl:l.length<=1000000):fnVC T Tryz.prog Tryz.f285 [.sl (l.map vcV), .fn g []] (I (fstI Q l)):=by
 have hll:(l.map vcV).length=l.length:=Ae
 repeat' ((conv=>whnf);first|refine zS ?_|fail)
 refine aU (A:=List Vc) (B:=List Vc) (fun D R=>mkSt [(0, .sl (l.map vcV)),(1, .fn g []),(7,I l.length),(8,I D.length)] [] [])
  (fun D R=>l=D++R/\∀m∈D,¬Q m) (fun D R=>R.length) [] l ?_ ⟨rfl,Ae⟩ (fun D R hp=>?_)
 ·exact zj
 ·exact GL
theorem eI1{g:FuncId}{Q:Vc->Prop}(hg:∀m,Sp g (vcV m:: []) (DB (Q m)))(l:List Vc)(hl:l.length<=1000000):Sp 285 [.sl (l.map vcV), .fn g []] (I (fstI Q l)):=zsp Tryz.func285 (fB5 hg l hl)
theorem fC1{g:FuncId}{Q:Vc->Prop}(hg:∀m,Sp g (vcV m:: []) (DB (Q m)))(l:List Vc)(hl:l.length<=1000000):fnVC T Tryz.prog Tryz.f236 [.sl (l.map vcV), .fn g []] (DB (∃m∈l,Q m)):=by
 repeat' ((conv=>whnf);first|refine zc (eI1 hg l hl) ?_|refine zS ?_|fail)
 exact KR
theorem dV4{g:FuncId}{Q:Vc->Prop}(hg:∀m,Sp g (vcV m:: []) (DB (Q m)))(l:List Vc)(hl:l.length<=1000000):Sp 236 [.sl (l.map vcV), .fn g []] (DB (∃m∈l,Q m)):=zsp Tryz.func236 (fC1 hg l hl)
theorem aS9(s t:Sg):Sp 198 [sgV s,sgV t] (I (dG s t)):=by
 refine zsp Tryz.func198 ?_
 repeat' ((conv=>whnf);first|refine zc (cU7 s t) ?_|refine zS ?_|fail)
 all_goals exact zE
theorem eD9(v:Vc):Sp 237 [vcV v] (DB (¬within v 2000)):=by
 refine zsp Tryz.func237 ?_
 repeat' ((conv=>whnf);first|refine zc (kC v 2000) ?_|refine zS ?_|fail)
 all_goals conv=>whnf
 all_goals refine aA (aF6 dW)
theorem dS7(r:Rg)(hl:r.length<=1000000):Sp 193 [rgV r] (DB (bR7 r)):=by
 refine zsp Tryz.func193 ?_
 repeat' ((conv=>whnf);first|refine zc (dV4 (fun v=>eD9 v) r hl) ?_|refine zS ?_|fail)
 all_goals conv=>whnf
 all_goals refine aA (aF6 ?_)
 rw[dW];unfold bR7;constructor
 ·intro h v hv
  exact O8
 ·rintro h ⟨v,hv,hn⟩
  exact hn (h v hv)
theorem dX5{z:Int}{a n:Nat}(h:z=(a:Int)):z.tmod (n:Int)=((a% n:Nat):Int):=by
 subst h;rw[Int.tmod_eq_emod_of_nonneg Aa];rfl
theorem getD_some{r:Rg}{k:Nat}(h:k<r.length):r[k]? =some (r.getD k z0):=by
 exact Ns
theorem sW{r:Rg}{z:Int}{k:Nat}{K:V->Prop}(hz:z=(k:Int))(h:k<r.length)(hk:K (vcV (r.getD k z0))):idx (r.map vcV) z.toNat K:=
 gK (l:=r) (getD_some h) Aa hk
theorem kS{r:Rg}{z:Int}{a:Nat}(h:z=(a:Int)):z.tmod ((r.map vcV).length:Int)=((a% r.length:Nat):Int):=by rw[eT0,dX5 h]
theorem aR7(r:Rg)(i:Nat)(hi:i<r.length)(hl:r.length<=1000000):Sp 196 [rgV r,I i] (vcV (iU r i)):=by
 refine zsp Tryz.func196 ?_;have hll:(r.map vcV).length=r.length:=Ae;have hm:(i+1)% r.length<r.length:=Nat.mod_lt _ Aa
 repeat' ((conv=>whnf);first|refine uM Aa ?_|refine aB (l:=r) (by rw[kS (a:=i+1) (by omega)];omega) ?_|refine sW (k:=(i+1)% r.length) (kS Aa) hm ?_|refine zS ?_|fail)
 all_goals exact zE
theorem dJ5(r:Rg)(i:Nat)(hi:i<r.length)(hl:r.length<=1000000):Sp 195 [rgV r,I i] (vcV (mY r i)):=by
 refine zsp Tryz.func195 ?_;have hll:(r.map vcV).length=r.length:=Ae;have hm:(i+r.length-1)% r.length<r.length:=Nat.mod_lt _ Aa
 repeat' ((conv=>whnf);first|refine uM Aa ?_|refine aB (l:=r) (by rw[kS (a:=i+r.length-1) (by omega)];omega) ?_|refine sW (k:=(i+r.length-1)% r.length) (kS Aa) hm ?_|refine zS ?_|fail)
 all_goals exact zE
theorem aU3{r:Rg}{z:Int}{k:Nat}{K:V->Prop}(hz:z=(k:Int))(h:k<r.length)(hk:K (vcV (r.getD k z0))):idx (r.map vcV) z.toNat K:=sW hz h hk
theorem bT2(r:Rg)(hl:r.length<=1000000):Sp 151 [rgV r] (I (zY r)):=by
 refine zsp Tryz.func151 ?_;have hll:(r.map vcV).length=r.length:=Ae
 repeat' ((conv=>whnf);first|refine zS ?_|fail)
 refine lD (A:=Nat) (fun k=>mkSt [(0,rgV r),(3,I (cI8 r k)),(6,rgV r),(7,I r.length),(8,I k)] [] []) (fun k=>k<=r.length) (fun k=>r.length-k) 0 ?_ Aa (fun k hk=>?_)
 ·exact zj
 have hn:=aR7 r k;have hs:=bC2 r k
 by_cases hkr:k<r.length
 ·repeat' ((conv=>whnf);first|(exfalso;omega)|refine aU3 (k:=k) Aa hkr ?_|refine zc (hn hkr hl) ?_|refine zc (kD (r.getD k z0) (iU r k)) ?_|refine zS ?_|refine zT ?_ ?_<;>intro _|fail)
  all_goals conv=>whnf
  refine⟨k+1,?_,Aa,Aa⟩;simp only[hs];exact zj
 ·have e:k=r.length:=by omega
  subst e;exact zF
def aH8(r:Rg)(k:Nat):List Sg:=(List.range k).map (aJ4 r)
theorem cS0(r:Rg)(k:Nat):(aH8 r k).map sgV++[sgV (aJ4 r k)] =(aH8 r (k+1)).map sgV:=by unfold aH8;rw[List.range_succ];simp
theorem bV5(r:Rg)(k:Nat):((aH8 r k).map sgV).length=k:=by unfold aH8;simp
def eX7(r:Rg)(k:Nat):St:=match k with
 |0=>mkSt [(0,rgV r),(3,nilV),(9,rgV r),(10,I r.length),(11,I 0)] [] []
 |k+1=>mkSt [(0,rgV r),(3, .arr 23 k),(9,rgV r),(10,I r.length),(11,I ((k:Int)+1))] [] [(23,⟨k, .own,270,(aH8 r (k+1)).map sgV⟩)]
theorem cK3{r:Rg}(h:r.length<2):bF r=[] :=if_pos h
theorem bA9{r:Rg}(h:¬r.length<2):bF r=aH8 r r.length:=if_neg h
theorem qE(r:Rg)(hl:r.length<=1000000):Sp 197 [rgV r] (.own 270 ((bF r).map sgV)):=by
 refine zsp Tryz.func197 ?_;have hll:(r.map vcV).length=r.length:=Ae;have h1:=cK3 (r:=r)
 have h2:=bA9 (r:=r);by_cases hr:r.length<2
 ·rw[h1 hr]
  repeat' ((conv=>whnf);first|(exfalso;omega)|refine zS ?_|refine zT ?_ ?_<;>intro _|fail)
  all_goals conv=>whnf
  exact⟨⟨⟨of_decide_eq_true Ac,rfl⟩,trivial⟩,rfl,fun _ h=>Ag⟩
 rw[h2 hr]
 repeat' ((conv=>whnf);first|(exfalso;omega)|refine zS ?_|refine zT ?_ ?_<;>intro _|fail)
 refine lD (A:=Nat) (eX7 r) (fun k=>k<=r.length) (fun k=>r.length-k) 0 ?_ Aa (fun k hk=>?_)
 ·exact zj
 have hn:=aR7 r k;have hs:=cS0 r k
 have hlen:=bV5 r k
 match k with
 |0=>
  repeat' ((conv=>whnf);first|(exfalso;omega)|refine aU3 (k:=0) Aa Aa ?_|refine zc (hn Aa hl) ?_|refine fU ⟨of_decide_eq_true Ac,of_decide_eq_true Ac,dA rfl⟩ ?_|refine zS ?_|refine zT ?_ ?_<;>intro _|fail)
  all_goals conv=>whnf
  refine⟨1,?_,Aa,Aa⟩;exact zj
 |k+1=>
  have hlen':=bV5 r (k+1);have h4:(List.map sgV (aH8 r (k+1))).length+1<=1000000000:=Aa
  by_cases hkr:k+1<r.length
  ·repeat' ((conv=>whnf);first|(exfalso;omega)|refine aU3 (k:=k+1) Aa hkr ?_|refine zc (hn hkr hl) ?_|refine iH rfl (.inl rfl) rfl (of_decide_eq_true rfl) (dA rfl) h4 ?_|refine zS ?_|refine zT ?_ ?_<;>intro _|fail)
   all_goals conv=>whnf
   refine⟨k+2,?_,Aa,Aa⟩;show Le T _ (mkSt [(0,rgV r),(3, .arr 23 (k+1)),(9,rgV r),(10,I r.length),(11,I (((k+1:Nat):Int)+1))] [] [(23,⟨k+1, .own,270,(aH8 r (k+1+1)).map sgV⟩)]);rw[<-hs];exact zj
  ·have e:k+1=r.length:=by omega
   rw[<-e];exact MF
theorem dT0{r:Rg}(h:2<=r.length):(bF r).length=r.length:=by
 rw[bA9 Aa];simp[aH8]
theorem dS{en:AE}{g:Nat}{z:Int}{K:Prop}(h1:en.gen=g)(h2:en.kind= .own)(h3:0<=z/\z<en.l.length)(hk:K):need (en.gen=g/\en.kind≠ .dead/\0<=z/\z<en.l.length) K:=fU ⟨h1,(by rw[h2];exact fun h=>by cases h),h3.1,h3.2⟩ hk
theorem dV6{l:List Sg}{z:Int}{k:Nat}{K:V->Prop}(hz:z=(k:Int))(h:k<l.length)(hk:K (sgV (l.getD k (z0,z0)))):idx (l.map sgV) z.toNat K:=by
 subst hz;refine gK (l:=l) (j:=k) (x:=l.getD k (z0,z0)) ?_ Aa hk;exact Ns
theorem lN(r:Rg)(hl:r.length<=1000000):Sp 148 [rgV r] (DB (dM r)):=by
 refine zsp Tryz.func148 ?_;have hll:(r.map vcV).length=r.length:=Ae;generalize hP:dM r=P;have hr:P↔dM r:=G7
 unfold dM at hr
 repeat' ((conv=>whnf);first|refine zc (dS7 r hl) ?_|refine zc (bT2 r hl) ?_|refine zS ?_|refine zT ?_ ?_<;>intro _|fail)
 all_goals conv=>whnf
 all_goals first
  |(refine aA (aC ?_);rw[hr];intro h;obtain⟨h1,h2,h3,h4,h5,h6⟩:=h;first|omega|contradiction)
  |skip
 have h3:3<=r.length:=Aa;have h40:r.length<=40:=Aa
 have hn:bR7 r:=Ad;have ha:0<zY r:=Aa
 refine lD (A:=Nat) (fun k=>mkSt [(0,rgV r),(3,I r.length),(27,rgV r),(28,I r.length),(29,I k)] [] []) (fun k=>k<=r.length/\∀i,i<k->kR (mY r i) (r.getD i z0) (iU r i)≠0) (fun k=>r.length-k) 0 ?_ ⟨Aa,fun i hi=>Aa⟩ (fun k hk=>?_)
 ·exact zj
 obtain⟨hk,ht⟩:=hk;have e1:=aR7 r k;have e2:=dJ5 r k
 by_cases hkr:k<r.length
 ·repeat' ((conv=>whnf);first|(exfalso;omega)|refine aU3 (k:=k) Aa hkr ?_|refine zc (e1 hkr hl) ?_|refine zc (e2 hkr hl) ?_|refine zc (aI8 (mY r k) (r.getD k z0) (iU r k)) ?_|refine zS ?_|refine zT ?_ ?_<;>intro _|fail)
  all_goals conv=>whnf
  ·refine aA (aC ?_)
   rw[hr];intro h;exact h.2.2.2.2.1 k hkr Ad
  ·refine⟨k+1,?_,⟨Aa,fun i hi=>?_⟩,Aa⟩
   ·exact zj
   ·by_cases e:i=k
    ·subst e;assumption
    ·exact ht i Aa
 have ek:k=r.length:=Aa;subst ek;have hel:=dT0 (r:=r) Aa
 have hee:=qE r hl;generalize hE:bF r=E at*;have hem:(E.map sgV).length=r.length:=by rw[List.length_map];exact hel
 repeat' ((conv=>whnf);first|(exfalso;omega)|refine zS ?_|refine zT ?_ ?_<;>intro _|fail)
 refine lD (A:=Nat) (fun i=>mkSt [(3,I r.length),(6, .arr 45 0),(46,I r.length),(47,I i)] [] [(45,⟨0, .own,270,E.map sgV⟩)]) (fun i=>i<=r.length/\∀i' k',i'<i->i'<k'->k'<r.length->cZ4 E r.length i' k') (fun i=>r.length-i) 0 ?_ ⟨Aa,fun i' k' hi=>Aa⟩ (fun i hi=>?_)
 ·exact zj
 obtain⟨hi,hap⟩:=hi;by_cases hir:i<r.length
 ·repeat' ((conv=>whnf);first|(exfalso;omega)|refine zS ?_|refine zT ?_ ?_<;>intro _|fail)
  refine lD (A:=Nat) (fun k=>mkSt [(3,I r.length),(6, .arr 45 0),(46,I r.length),(47,I i),(7,I i),(8,I k)] [] [(45,⟨0, .own,270,E.map sgV⟩)]) (fun k=>i<k/\k<=r.length/\∀k',i<k'->k'<k->cZ4 E r.length i k') (fun k=>r.length-k) (i+1) ?_ ⟨Aa,Aa,fun k' h1 h2=>Aa⟩ (fun k hk=>?_)
  ·exact zj
  obtain⟨hk0,hk,hin⟩:=hk;by_cases hkr:k<r.length
  ·repeat' ((conv=>whnf);first|(exfalso;omega)|refine dS rfl rfl (by show 0<=_/\_< ((E.map sgV).length:Int);omega) ?_|refine dV6 (k:=i) Aa Aa ?_|refine dV6 (k:=k) Aa Aa ?_|refine zc (aS9 (E.getD i (z0,z0)) (E.getD k (z0,z0))) ?_|refine zS ?_|refine zT ?_ ?_<;>intro _|fail)
   all_goals conv=>whnf
   all_goals first
    |(refine aA (aC ?_);rw[hr];intro h;exact absurd (h.2.2.2.2.2 i k hk0 hkr Aa Aa) Ad)
    |skip
   all_goals
    refine⟨k+1,?_,⟨Aa,Aa,fun k' h1 h2=>?_⟩,Aa⟩
    ·exact zj
    ·by_cases e:k'=k
     ·subst e
      intro q1 q2
      first|assumption|(exfalso;omega)
     ·exact hin k' h1 Aa
  ·repeat' ((conv=>whnf);first|(exfalso;omega)|refine zS ?_|refine zT ?_ ?_<;>intro _|fail)
   all_goals conv=>whnf
   refine⟨i+1,?_,⟨Aa,fun i' k' h1 h2 h3=>?_⟩,Aa⟩
   ·exact zj
   ·by_cases e:i'=i
    ·subst e
     exact hin k' h2 Aa
    ·exact hap i' k' Aa h2 h3
 ·have ei:i=r.length:=by omega
  subst ei
  repeat' ((conv=>whnf);first|(exfalso;omega)|refine zS ?_|refine zT ?_ ?_<;>intro _|fail)
  all_goals conv=>whnf
  refine aA (fE ?_);rw[hr];exact⟨h3,h40,hn,ha,ht,fun i k h1 h2=>hap i k Aa h1 h2⟩
theorem eA0{r:Rg}(h:dM r):nG r=zY r:=if_pos h
theorem dX4{r:Rg}(h:¬dM r):nG r=0:=if_neg h
theorem aX1(r:Rg)(hl:r.length<=1000000):Sp 110 [rgV r] (I (nG r)):=by
 refine zsp Tryz.func110 ?_;have h1:=eA0 (r:=r);have h2:=dX4 (r:=r)
 generalize nG r=A at*
 repeat' ((conv=>whnf);first|refine zc (lN r hl) ?_|refine zc (bT2 r hl) ?_|refine zS ?_|refine zT ?_ ?_<;>intro _|fail)
 all_goals conv=>whnf
 all_goals first
  |exact aG (h2 Ad).symm
  |exact aG (h1 Ad).symm
theorem cM0(p:Pt)(v:Vc):Sp 292 [vcV v, .fp (ptV p).cells] (vcV (toP p v)):=by
 refine zsp Tryz.func292 ?_;exact LQ
theorem dT8{a b:Bool}:eqBB a b=true↔a=b:=by unfold eqBB;simp
theorem br_ll{a b:Int}{A B:Prop}(h1:(0<=a↔0<=b)->A)(h2:¬(0<=a↔0<=b)->B):branch (eqBB (leB 0 a) (leB 0 b)) A B:=by
 have e:eqBB (leB 0 a) (leB 0 b)=true↔(0<=a↔0<=b):=by rw[dT8,Bool.eq_iff_iff,bV6,bV6]
 exact NW
theorem br_l2{a b:Int}{A B:Prop}(h1:(0<=a↔0<b)->A)(h2:¬(0<=a↔0<b)->B):branch (eqBB (leB 0 a) (ltB 0 b)) A B:=by
 have e:eqBB (leB 0 a) (ltB 0 b)=true↔(0<=a↔0<b):=by rw[dT8,Bool.eq_iff_iff,bV6,dC8]
 exact NW
theorem qB(p:Pt):∀b:Bool,lU p [] b=if b=true then 2 else 0:=fun b=>by unfold lU;rfl
theorem oP{p:Pt}{e:Sg}{es:List Sg}{b:Bool}(h:onE p e):lU p (e::es) b=1:=by
 rw[lU,if_pos h]
theorem rE{p:Pt}{e:Sg}{es:List Sg}{b:Bool}(h:¬onE p e)(h2:rW p e):lU p (e::es) b=lU p es (!b):=by
 rw[lU,if_neg h,if_pos h2]
theorem jD{p:Pt}{e:Sg}{es:List Sg}{b:Bool}(h:¬onE p e)(h2:¬rW p e):lU p (e::es) b=lU p es b:=by
 rw[lU,if_neg h,if_neg h2]
theorem eA4{r:Rg}{p:Pt}(h:¬dM r\/¬wJ p):iF r p=0:=if_neg (fun q=>by rcases h with h|h<;>simp_all)
theorem aD9{r:Rg}{p:Pt}(h:dM r)(h2:wJ p):iF r p=lU p (bF r) false:=if_pos ⟨h,h2⟩
theorem aB7(r:Rg)(p:Pt)(hl:r.length<=1000000):Sp 242 [rgV r,ptV p] (I (iF r p)):=by
 refine zsp Tryz.func242 ?_;have h1:=eA4 (r:=r) (p:=p);have h2:=aD9 (r:=r) (p:=p)
 have hee:=qE r hl;generalize iF r p=A at*;generalize hE:bF r=E at*
 repeat' ((conv=>whnf);first|refine zc (lN r hl) ?_|refine zc (bW9 p) ?_|refine zc hee ?_|refine zS ?_|refine zT ?_ ?_<;>intro _|fail)
 all_goals conv=>whnf
 all_goals first
  |exact aG (h1 Fz).symm
  |skip
 have hA:=h2 Ad Ad;clear h1 h2
 have hEl:E.length<=1000000:=by
  rw[<-hE];unfold bF;split<;>simp;omega
 clear hE hee;refine oU (A:=List Sg) (B:=List Sg) (C:=Bool) (fun D R b=>mkSt [(5, .fn 292 [.fp (ptV p).cells]),(6, .lit (.bool b)),(23, .arr 23 0),(24,I E.length),(25,I D.length)] [] [(23,⟨0, .own,270,E.map sgV⟩)]) (fun D R b=>E=D++R/\A=lU p R b) (fun D R b=>R.length) [] E false ?_ ⟨rfl,hA⟩ (fun D R b hp=>?_)
 ·exact Hf
 obtain⟨hp,hw⟩:=hp
 cases R with
 |nil=>
  have hlen:E.length=D.length:=Af;rw[qB]at hw
  repeat' ((conv=>whnf);first|(exfalso;omega)|refine zS ?_|refine zT ?_ ?_<;>intro _|fail)
  all_goals conv=>whnf
  all_goals exact aG (by rw[hw];simp[*])
 |cons e R=>
  have hlen:=aO hp;have w1:=oP (p:=p) (e:=e) (es:=R) (b:=b)
  have w2:=rE (p:=p) (e:=e) (es:=R) (b:=b);have w3:=jD (p:=p) (e:=e) (es:=R) (b:=b)
  rw[<-hw]at w1 w2 w3;have hc:=kD (vsub e.2 e.1) (toP p e.1);have hon:onE p e↔bZ (vsub e.2 e.1) (toP p e.1)=0/\_:=Iff.rfl
  have hfl:rW p e↔¬(0<=(toP p e.1).2↔0<=(toP p e.2).2)/\(0<=(toP p e.1).2↔0<bZ (vsub e.2 e.1) (toP p e.1)):=Iff.rfl;simp only[<-lH,<-mG]at hon;generalize bZ (vsub e.2 e.1) (toP p e.1)=side at*;have ha:=cM0 p e.1
  have hb:=cM0 p e.2;generalize toP p e.1=a at*;generalize toP p e.2=c at*
  repeat' ((conv=>whnf);first|(exfalso;omega)|refine dS rfl rfl (by show 0<=_/\_< ((E.map sgV).length:Int);rw[List.length_map];omega) ?_|refine aF (l:=E) (A:=D) (x:=e) (B:=R) hp Aa ?_|refine zc ha ?_|refine zc hb ?_|refine zc (fF e.2 e.1) ?_|refine zc hc ?_|refine br_ll (fun hbb=>?_) (fun hbb=>?_)|refine br_l2 (fun hbb=>?_) (fun hbb=>?_)|refine zS ?_|refine zT ?_ ?_<;>intro _|fail)
  all_goals conv=>whnf
  all_goals first
   |exact aG (w1 (hon.2 ⟨Aa,Aa,Aa,Aa,Aa⟩)).symm
   |skip
  all_goals
   first
   |(refine⟨(D++[e],R, !b),?_,⟨Af,w2 (fun q=>by have q:=hon.1 q;omega) (hfl.2 ⟨Ad,Ad⟩)⟩,Ae⟩)
   |(refine⟨(D++[e],R,b),?_,⟨Af,w3 (fun q=>by have q:=hon.1 q;omega) (fun q=>by obtain⟨q1,q2⟩:=hfl.1 q;contradiction)⟩,Ae⟩)
   exact Ll
theorem aC1{r:Rg}{v:Vc}(h:within v 4000):fJ r v=iF r (v.1,v.2,1):=if_pos h
theorem eA7{r:Rg}{v:Vc}(h:¬within v 4000):fJ r v=0:=if_neg h
theorem cL0(r:Rg)(v:Vc)(hl:r.length<=1000000):Sp 201 [rgV r,vcV v] (I (fJ r v)):=by
 refine zsp Tryz.func201 ?_;have h1:=aC1 (r:=r) (v:=v);have h2:=eA7 (r:=r) (v:=v)
 generalize fJ r v=A at*
 repeat' ((conv=>whnf);first|refine zc (kC v 4000) ?_|refine zc (zN v) ?_|refine zc (aB7 r (v.1,v.2,1) hl) ?_|refine zS ?_|refine zT ?_ ?_<;>intro _|fail)
 all_goals conv=>whnf
 all_goals first
  |exact aG (h2 Ad).symm
  |exact aG (h1 Ad).symm
open Classical in
def boxR(r:Rg):Bx×Bool:=if dM r then aC7 r else(((0,0),(0,0)),false)
theorem dX3{r:Rg}(h:dM r):boxR r=aC7 r:=if_pos h
theorem eX2{r:Rg}(h:¬dM r):boxR r=(((0,0),(0,0)),false):=if_neg h
theorem dL2(r:Rg)(hl:r.length<=1000000):Sp 205 [rgV r] (.tup [bxV (boxR r).1, .lit (.bool (boxR r).2)]):=by
 refine zsp Tryz.func205 ?_;have h1:=dX3 (r:=r);have h2:=eX2 (r:=r)
 have hb:=bI9 r hl;generalize boxR r=A at*;generalize aC7 r=B at*
 repeat' ((conv=>whnf);first|refine zc (lN r hl) ?_|refine zS ?_|refine zd (fun hd=>?_) (fun hd=>?_))
 ·rw[h1 hd]
  all_goals exact zE
 ·rw[h2 hd]
  all_goals exact zE
theorem eL0{r:Rg}{k:Nat}(h:k<r.length):r.take (k+1)=r.take k++[r.getD k z0] :=by
 rw[List.take_add_one,getD_some h];rfl
theorem eA2(a b:Rg)(ha:a.length<=1000000)(hb:b.length<=1000000):Sp 293 [rgV a,rgV b] (DB (a=b)):=by
 refine zsp Tryz.func293 ?_;have hla:(a.map vcV).length=a.length:=Ae;have hlb:(b.map vcV).length=b.length:=Ae
 repeat' ((conv=>whnf);first|refine zS ?_|refine zT ?_ ?_<;>intro _|fail)
 all_goals conv=>whnf
 all_goals first
  |(refine aA (aC ?_);intro h;subst h;omega)
  |skip
 have hab:a.length=b.length:=Aa;refine lD (A:=Nat) (fun k=>mkSt [(0,rgV a),(1,rgV b),(11,rgV a),(12,I a.length),(13,I k)] [] []) (fun k=>k<=a.length/\a.take k=b.take k) (fun k=>a.length-k) 0 ?_ ⟨Aa,rfl⟩ (fun k hk=>?_)
 ·exact zj
 obtain⟨hk,ht⟩:=hk;by_cases hkr:k<a.length
 ·repeat' ((conv=>whnf);first|(exfalso;omega)|refine aU3 (r:=a) (k:=k) Aa Aa ?_|refine aU3 (r:=b) (k:=k) Aa Aa ?_|refine aT1 ?_|refine aB4 (fun hv=>?_) (fun hv=>?_)|refine zS ?_|refine zT ?_ ?_<;>intro _|fail)
  all_goals conv=>whnf
  ·refine⟨k+1,?_,⟨Aa,?_⟩,Aa⟩
   ·exact zj
   ·rw[eL0 Aa,eL0 Aa,ht,hv]
  ·refine aA (aC ?_)
   intro h;subst h;exact hv rfl
 ·have ek:k=a.length:=by omega
  repeat' ((conv=>whnf);first|(exfalso;omega)|refine zS ?_|refine zT ?_ ?_<;>intro _|fail)
  all_goals conv=>whnf
  exact NT
theorem wF(m x:Vc)(l:List Vc):sQ m (x::l)=sQ (open Classical in if kF x m then x else m) l:=by rw[sQ]
theorem cL6(r:Rg)(hl:r.length<=1000000)(h0:r≠ []):Sp 294 [rgV r, .fn 249 []] (vcV (wO r)):=by
 refine zsp Tryz.func294 ?_;have hll:(r.map vcV).length=r.length:=Ae;have hpos:1<=r.length:=by cases r with|nil=>exact absurd rfl h0|cons x l=>simp
 obtain⟨x,l,hr⟩:∃x l,r=x::l:=by cases r with|nil=>exact absurd rfl h0|cons x l=>exact⟨x,l,rfl⟩
 have hle:wO r=sQ x l:=by rw[hr];rfl
 repeat' ((conv=>whnf);first|(exfalso;omega)|refine aF (l:=r) (A:=[]) (x:=x) (B:=l) hr rfl ?_|refine zS ?_|refine zl (fun hlt=>?_) (fun hlt=>?_))
 refine oU (A:=List Vc) (B:=List Vc) (C:=Vc) (fun D R m=>mkSt [(0,rgV r),(1, .fn 249 []),(4, .box 4 0),(5, .box 5 0),(6,I D.length)] [(4,[I 0,I 0]),(5,(vcV m).cells)] []) (fun D R m=>r=D++R/\wO r=sQ m R/\1<=D.length) (fun D R m=>R.length) [x] l x ?_ ⟨hr,hle,Ae⟩ (fun D R m hp=>?_)
 ·exact zj
 obtain⟨hp,hm,hD⟩:=hp
 cases R with
 |nil=>
  have hlen:r.length=D.length:=Af;rw[hm];exact Nr
 |cons y R=>
  have hlen:=aO hp;rw[wF]at hm
  repeat' ((conv=>whnf);first|(exfalso;omega)|refine zc (qI y m) ?_|refine zS ?_|refine zl (fun hlt=>?_) (fun hlt=>?_))
  all_goals conv=>whnf
  ·refine⟨(D++[y],R,y),?_,⟨Af,by rw[hm,if_pos (show kF y m from hlt)],Ae⟩,Ae⟩
   exact Ll
  ·refine⟨(D++[y],R,m),?_,⟨Af,by rw[hm,if_neg (show¬kF y m by unfold kF;omega)],Ae⟩,Ae⟩
   exact Ll
def bZ1(v:Vc)(r:Rg):Int:=match sN v r 0 with|some j=>j|none=> -1
theorem cJ4(r:Rg)(v:Vc)(hl:r.length<=1000000):Sp 295 [rgV r,vcV v] (I (bZ1 v r)):=by
 refine zsp Tryz.func295 ?_;have hll:(r.map vcV).length=r.length:=Ae;unfold bZ1
 repeat' ((conv=>whnf);first|refine zS ?_|fail)
 refine aU (A:=List Vc) (B:=List Vc) (fun D R=>mkSt [(0,rgV r),(3, .box 3 0),(6,rgV r),(7,I r.length),(8,I D.length)] [(3,(vcV v).cells)] []) (fun D R=>r=D++R/\sN v r 0=sN v R D.length) (fun D R=>R.length) [] r ?_ ⟨rfl,rfl⟩ (fun D R hp=>?_)
 ·exact zj
 obtain⟨hp,hm⟩:=hp
 cases R with
 |nil=>
  have hlen:r.length=D.length:=Af
  repeat' ((conv=>whnf);first|(exfalso;omega)|refine zS ?_|refine zT ?_ ?_<;>intro _|fail)
  all_goals conv=>whnf
  exact aG (by rw[hm];rfl)
 |cons y R=>
  have hlen:=aO hp;rw[sN]at hm
  repeat' ((conv=>whnf);first|(exfalso;omega)|refine aT1 ?_|refine aB4 (fun hv=>?_) (fun hv=>?_)|refine zS ?_|refine zT ?_ ?_<;>intro _|fail)
  all_goals conv=>whnf
  ·exact aG (by rw[hm,if_pos hv])
  ·rw[if_neg hv]at hm
   refine⟨(D++[y],R),?_,⟨Af,by rw[hm];simp⟩,Ae⟩
   exact Ll
theorem fB6{g:FuncId}{c d:List V}{Q:Vc->Prop}(hg:∀m,Sp g (vcV m:: [.fp c, .fp d]) (DB (Q m)))(l:List Vc)(hl:l.length<=1000000):fnVC T Tryz.prog Tryz.f241 [.sl (l.map vcV), .fn g [.fp c, .fp d]] (I (fstI Q l)):=by
 have hll:(l.map vcV).length=l.length:=Ae
 repeat' ((conv=>whnf);first|refine zS ?_|fail)
 refine aU (A:=List Vc) (B:=List Vc) (fun D R=>mkSt [(0, .sl (l.map vcV)),(1, .fn g [.fp c, .fp d]),(7,I l.length),(8,I D.length)] [] [])
  (fun D R=>l=D++R/\∀m∈D,¬Q m) (fun D R=>R.length) [] l ?_ ⟨rfl,Ae⟩ (fun D R hp=>?_)
 ·exact zj
 ·obtain⟨h1,h2⟩:=hp
  have hlen:l.length=D.length+R.length:=AY;have hD:∀y∈D,(!decB (Q y))=true:=fun y hy=>BF
  cases R with
  |nil=>
   have e:l=D:=AY;simp at hlen
   repeat' ((conv=>whnf);first|(exfalso;omega)|refine zS ?_|refine zl (fun hlt=>?_) (fun hlt=>?_))
   exact O6
  |cons x R=>
   rw[List.length_cons]at hlen
   repeat' ((conv=>whnf);first|(exfalso;omega)|refine aF (l:=l) (A:=D) (x:=x) (B:=R) h1 Aa ?_|refine zc (hg x) ?_|refine zS ?_|refine zd (fun hd=>?_) (fun hd=>?_)|refine zl (fun hlt=>?_) (fun hlt=>?_))
   ·exact Hr
   ·exact GR
theorem eH6{g:FuncId}{c d:List V}{Q:Vc->Prop}(hg:∀m,Sp g (vcV m:: [.fp c, .fp d]) (DB (Q m)))(l:List Vc)(hl:l.length<=1000000):Sp 241 [.sl (l.map vcV), .fn g [.fp c, .fp d]] (I (fstI Q l)):=zsp Tryz.func241 (fB6 hg l hl)
theorem fB1{g:FuncId}{c d:List V}{Q:Vc->Prop}(hg:∀m,Sp g (vcV m:: [.fp c, .fp d]) (DB (Q m)))(l:List Vc)(hl:l.length<=1000000):fnVC T Tryz.prog Tryz.f199 [.sl (l.map vcV), .fn g [.fp c, .fp d]] (DB (∃m∈l,Q m)):=by
 repeat' ((conv=>whnf);first|refine zc (eH6 hg l hl) ?_|refine zS ?_|fail)
 exact KR
theorem eC1{g:FuncId}{c d:List V}{Q:Vc->Prop}(hg:∀m,Sp g (vcV m:: [.fp c, .fp d]) (DB (Q m)))(l:List Vc)(hl:l.length<=1000000):Sp 199 [.sl (l.map vcV), .fn g [.fp c, .fp d]] (DB (∃m∈l,Q m)):=zsp Tryz.func199 (fB1 hg l hl)
theorem dR4(b:Rg)(n:Int)(hb:b.length<=1000000)(v:Vc):Sp 200 [vcV v, .fp [rgV b], .fp [I n]] (DB (¬fJ b v=n)):=by
 refine zsp Tryz.func200 ?_
 repeat' ((conv=>whnf);first|refine zc (cL0 b v hb) ?_|refine zS ?_|fail)
 all_goals conv=>whnf
 all_goals refine aA (aF6 ?_)
 all_goals exact dY0
theorem tX(r b:Rg)(n:Int)(hr:r.length<=1000000)(hb:b.length<=1000000):Sp 149 [rgV r,rgV b,I n] (DB (pR r b n)):=by
 refine zsp Tryz.func149 ?_
 repeat' ((conv=>whnf);first|refine zc (eC1 (fun v=>dR4 b n hb v) r hr) ?_|refine zS ?_|fail)
 all_goals conv=>whnf
 all_goals refine aA (aF6 ?_)
 rw[dW];unfold pR;constructor
 ·intro h v hv
  exact O8
 ·rintro h ⟨v,hv,hn⟩
  exact hn (h v hv)
theorem aK9{r:Rg}(h:r.length<=1000000):(bF r).length<=1000000:=by
 unfold bF;split<;>simp;omega
theorem vS(a b:Rg)(ha:a.length<=1000000)(hb:b.length<=1000000):Sp 150 [rgV a,rgV b] (DB (uV a b)):=by
 refine zsp Tryz.func150 ?_;have hea:=qE a ha;have heb:=qE b hb
 have hla:=aK9 ha;have hlb:=aK9 hb
 generalize hP:uV a b=P;have hr:P↔uV a b:=G7;unfold uV at hr;generalize bF a=A at*;generalize bF b=B at*
 repeat' ((conv=>whnf);first|refine zc hea ?_|refine zS ?_|fail)
 refine aU (A:=List Sg) (B:=List Sg) (fun D R=>mkSt [(1,rgV b),(10, .arr 10 0),(11,I A.length),(12,I D.length)] [] [(10,⟨0, .own,270,A.map sgV⟩)]) (fun D R=>A=D++R/\∀x∈D,∀y∈B,dG x y=0) (fun D R=>R.length) [] A ?_ ⟨rfl,Ae⟩ (fun D R hp=>?_)
 ·exact Hf
 obtain⟨hp,hD⟩:=hp
 cases R with
 |nil=>
  have hlen:A.length=D.length:=Af
  repeat' ((conv=>whnf);first|(exfalso;omega)|refine zS ?_|refine zT ?_ ?_<;>intro _|fail)
  all_goals conv=>whnf
  refine aA (fE (hr.2 ?_));rw[hp,List.append_nil];exact hD
 |cons x R=>
  have hlen:=aO hp
  repeat' ((conv=>whnf);first|(exfalso;omega)|refine dS rfl rfl CB ?_|refine aF (l:=A) (A:=D) (x:=x) (B:=R) hp Aa ?_|refine zc heb ?_|refine zS ?_|refine zT ?_ ?_<;>intro _|fail)
  refine aU (A:=List Sg) (B:=List Sg) (fun E S=>mkSt [(1,rgV b),(6, .box 6 0),(10, .arr 10 0),(11,I A.length),(12,I D.length),(17, .arr 17 0),(18,I B.length),(19,I E.length)] [(6,(sgV x).cells)] [(10,⟨0, .own,270,A.map sgV⟩),(17,⟨0, .own,270,B.map sgV⟩)]) (fun E S=>B=E++S/\∀y∈E,dG x y=0) (fun E S=>S.length) [] B ?_ ⟨rfl,Ae⟩ (fun E S hq=>?_)
  ·exact Hf
  obtain⟨hq,hE⟩:=hq
  cases S with
  |nil=>exact KN
  |cons y S=>
   have hlen2:=aO hq
   repeat' ((conv=>whnf);first|(exfalso;omega)|refine dS rfl rfl CG ?_|refine aF (l:=B) (A:=E) (x:=y) (B:=S) hq Aa ?_|refine zc (aS9 x y) ?_|refine zS ?_|refine zT ?_ ?_<;>intro _|fail)
   all_goals conv=>whnf
   all_goals first
    |(refine aA (aC ?_);rw[hr];intro h;exact absurd (h x Af y AO) Ad)
    |skip
   exact Ob
theorem eE1{T:Tab}{σ:St}{x:ItC}{k:Option Nat}{Q:ItQ}{A B:Type}(st:A->B->St)(kk:A->B->Option Nat)(inv:A->B->Prop)(m:A->B->Nat)(a0:A)(b0:B)(h0:Le T σ (st a0 b0))(h1:inv a0 b0)(hk:kk a0 b0=k)(h:∀a b,inv a b->x (kk a b) (st a b) fun e k' σ'=>match e with
 | .normal=>∃p':A×B,Le T σ' (st p'.1 p'.2)/\inv p'.1 p'.2/\kk p'.1 p'.2=k'/\m p'.1 p'.2<m a b
 |e=>Q e k' σ'):bX4 T x k σ Q:=
 eD4 (A:=A×B) (fun p=>st p.1 p.2) (fun p=>kk p.1 p.2) (fun p=>inv p.1 p.2) (fun p=>m p.1 p.2) (a0,b0) h0 h1 hk (fun p hp=>h p.1 p.2 hp)
def iI(s:Sh):List (List V):=(rings s).map fun r=> [rgV r]
theorem eE3(s:Sh):(iI s)[0]? =some [rgV s.outer] :=rfl
theorem dK1{s:Sh}{D R:List Rg}{h:Rg}(hp:s.holes=D++h::R):(iI s)[D.length+1]? =some [rgV h] :=by
 unfold iI rings;rw[List.getElem?_map,List.getElem?_cons_succ,hp];simp
theorem dD3(r:Rg):bM [rgV r] :=by
 refine aH.2 (fun y hy=>?_);rw[List.mem_singleton.1 hy];unfold rgV;simp only[V.ok];exact aH.2 (fun z hz=>by obtain⟨v,_,rfl⟩:=List.mem_map.1 hz;simp[vcV,I,V.ok,V.okL])
theorem dW4(s:Sh)(hl:s.holes.length<=1000000):itVC T Tryz.prog Tryz.f152 [.fp (shV s).cells] (iI s):=by
 intro l;have hil:(iI s).length=s.holes.length+1:=by unfold iI rings;simp
 repeat' ((conv=>whnf);first|refine cD0 ?_|refine dE2 (eE3 s) (dD3 _) ?_ ?_|refine zS ?_|fail)
 all_goals conv=>whnf
 all_goals first
  |exact trivial
  |skip
 refine eE1 (A:=List Rg) (B:=List Rg) (fun D R=>mkSt [(0, .lit (.func (.yield l) ⟨[]⟩ ⟨[]⟩)),(1, .fp (shV s).cells),(11, .sl (s.holes.map rgV)),(12,I s.holes.length),(13,I D.length)] [] []) (fun D R=>some (D.length+1)) (fun D R=>s.holes=D++R) (fun D R=>R.length) [] s.holes ?_ rfl rfl (fun D R hp=>?_)
 ·exact GV
 have hmm:(s.holes.map rgV).length=s.holes.length:=Ae
 cases R with
 |nil=>
  have hlen:s.holes.length=D.length:=Af
  repeat' ((conv=>whnf);first|(exfalso;omega)|refine cD0 ?_|refine zT ?_ ?_<;>intro _|refine zS ?_|fail)
  all_goals conv=>whnf
  show D.length+1=(iI s).length;omega
 |cons h R=>
  have hlen:=aO hp
  repeat' ((conv=>whnf);first|(exfalso;omega)|refine cD0 ?_|refine dE2 (dK1 hp) (dD3 _) ?_ ?_|refine zS ?_|refine zT ?_ ?_<;>intro _|fail)
  all_goals conv=>whnf
  all_goals first
   |exact trivial
   |skip
  refine⟨(D++[h],R),?_,Af,Ae,Ae⟩;exact Ll
theorem vJ(s:Sh)(hl:s.holes.length<=1000000):aB0 T Tryz.prog 152 [.fp (shV s).cells] (iI s):=
 dZ5 uG mixed Tryz.func152 Ac (Nat.le_of_ble_eq_true Ac) Ac (dW4 s hl)
theorem rQ(s:Sh):Sp 111 [shV s] (.fn 152 [.fp (shV s).cells]):=by
 refine zsp Tryz.func111 ?_
 repeat' ((conv=>whnf);first|refine zS ?_|fail)
 all_goals conv=>whnf
 exact⟨by(repeat' (first|exact trivial|refine And.intro ?_ ?_|with_reducible rfl|exact(fun h=>Ag)|exact rfl));done,rfl,fun rs h=>V.noConfusion h⟩
end Go.Proofs.Led
