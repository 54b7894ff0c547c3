/-
  The reference's question whether a shape lies inside another one, walked: edges, vertices, where points lie.
-/
import Derived.Test.YtkhhdojgbkophaaGreatQB21
set_option linter.unusedVariables false
set_option linter.unusedSimpArgs false
set_option maxRecDepth 100000
set_option maxHeartbeats 8000000
noncomputable section
namespace Go.Proofs.Led
open Go Go.Proofs Go.Ab
theorem gA2(l:List Sg):∀y∈l.map sgV,y.cells.length=4:=fun y hy=>AX
def redSt(rs:List Rg)(D:List Rg):St:=match D with
 | [] =>mkSt [(3,nilV),(4, .sl (rs.map rgV)),(5,I 0)] [] [(7,⟨0, .frz,39,rs.map rgV⟩)]
 |d::D=>mkSt [(3, .arr 20 D.length),(4, .sl (rs.map rgV)),(5,I ((D.length:Int)+1))] [] [(7,⟨0, .frz,39,rs.map rgV⟩),(20,⟨D.length, .own,298,((d::D).flatMap bF).map sgV⟩)]
theorem gG9{r:Rg}(h:r.length<=1000000):(bF r).length<=1000000:=Gv
theorem fK8(s:Sh)(hs:gV s)(h6:s.holes.length<=6):Sp 313 [shV s] (.own 298 ((aC0 s).map sgV)):=by
 refine zsp Tryz.func313 ?_;have g0:=fE1 s hs;have hsa:∀r∈rings s,r.length<=1000000:=fun r hr=>hs.mem hr
 have hfb:∀ {D R:List Rg},rings s=D++R->(D.flatMap bF).length<=7000000:=fun h=>bC1 hs h6 h;have hE:aC0 s=(rings s).flatMap bF:=rfl
 have hne:rings s≠ [] :=AA;have hl7:(rings s).length<=7:=FV
 rw[hE];generalize rings s=A at*;have hAm:(A.map rgV).length=A.length:=Af
 repeat' ((conv=>whnf);first|refine zc g0 ?_|refine zS ?_|fail)
 refine aU (A:=List Rg) (B:=List Rg) (fun D R=>redSt A D) (fun D R=>A=D++R) (fun D R=>R.length) [] A ?_ rfl (fun D R hp=>?_)
 ·exact Na
 have hp:A=D++R:=hp
 cases R with
 |nil=>exact KF
 |cons r R=>
  have hlen:=aO hp;have hrl:=hsa r Ac
  have ge:=fE7 r hrl;have hb1:=hfb (D:=D) (R:=r::R) hp
  have hb2:=gG9 hrl
  cases D with
  |nil=>
   have h0:([] :List Rg).length=0:=rfl
   repeat' ((conv=>whnf);first|(exfalso;omega)|refine aB (l:=A) Aa ?_|refine aF (l:=A) (A:=[]) (x:=r) (B:=R) hp Aa ?_|refine zc ge ?_|refine gX (of_decide_eq_true rfl) (gA2 (bF r)) (by show((bF r).map sgV).length<=1000000000;rw[List.length_map];omega) ?_|refine zS ?_|refine zT ?_ ?_<;>intro _|fail)
   all_goals conv=>whnf
   refine⟨([r],R),?_,hp,Af⟩;show Le T _ (mkSt [(3, .arr 20 0),(4, .sl (A.map rgV)),(5,I (0+1))] [] [(7,⟨0, .frz,39,A.map rgV⟩),(20,⟨0, .own,298,([r].flatMap bF).map sgV⟩)]);rw[show [r].flatMap bF=bF r from Af];exact zj
  |cons d D=>
   have h0:(d::D).length=D.length+1:=rfl
   repeat' ((conv=>whnf);first|(exfalso;omega)|refine aB (l:=A) Aa ?_|refine aF (l:=A) (A:=d::D) (x:=r) (B:=R) hp Aa ?_|refine zc ge ?_|refine iH rfl (.inl rfl) rfl (of_decide_eq_true rfl) (gA2 (bF r)) (by show(((d::D).flatMap bF).map sgV).length+((bF r).map sgV).length<=1000000000;rw[List.length_map,List.length_map];omega) ?_|refine zS ?_|refine zT ?_ ?_<;>intro _|fail)
   all_goals conv=>whnf
   refine⟨(d::(D++[r]),R),?_,Ac,Af⟩;show Le T _ (mkSt [(3, .arr 20 (D++[r]).length),(4, .sl (A.map rgV)),(5,I (((D++[r]).length:Int)+1))] [] [(7,⟨0, .frz,39,A.map rgV⟩),(20,⟨(D++[r]).length, .own,298,((d::(D++[r])).flatMap bF).map sgV⟩)]);rw[show((d::(D++[r])).flatMap bF).map sgV=((d::D).flatMap bF).map sgV++(bF r).map sgV from Af,List.length_append,List.length_singleton];exact zj
def rveSt(rs:List Rg)(D:List Rg):St:=match D with
 | [] =>mkSt [(3,nilV),(4, .sl (rs.map rgV)),(5,I 0)] [] [(7,⟨0, .frz,39,rs.map rgV⟩)]
 |d::D=>mkSt [(3, .arr 19 D.length),(4, .sl (rs.map rgV)),(5,I ((D.length:Int)+1))] [] [(7,⟨0, .frz,39,rs.map rgV⟩),(19,⟨D.length, .own,76,((d::D).flatten).map vcV⟩)]
theorem gC0:∀ {E:List Rg},(∀r∈E,r.length<=1000000)->E.flatten.length<=1000000*E.length
 | [],_=>Af
 |e::E,h=>by
  have h1:=h e Af;have h2:=gC0 (E:=E) (fun r hr=>h r Jy)
  rw[List.flatten_cons,List.length_append,List.length_cons];omega
theorem fG7(s:Sh)(hs:gV s)(h6:s.holes.length<=6):Sp 263 [shV s] (.own 76 ((rV s).map vcV)):=by
 refine zsp Tryz.func263 ?_;have g0:=fE1 s hs;have hsa:∀r∈rings s,r.length<=1000000:=fun r hr=>hs.mem hr
 have hE:rV s=(rings s).flatten:=rfl;have hne:rings s≠ [] :=AA
 have hl7:(rings s).length<=7:=FV;rw[hE];generalize rings s=A at*;have hAm:(A.map rgV).length=A.length:=Af
 repeat' ((conv=>whnf);first|refine zc g0 ?_|refine zS ?_|fail)
 refine aU (A:=List Rg) (B:=List Rg) (fun D R=>rveSt A D) (fun D R=>A=D++R) (fun D R=>R.length) [] A ?_ rfl (fun D R hp=>?_)
 ·exact Na
 have hp:A=D++R:=hp
 cases R with
 |nil=>exact KF
 |cons r R=>
  have hlen:=aO hp;have hrl:=hsa r Ac
  have hb1:=gC0 (E:=D) (fun x hx=>hsa x (by rw[hp];simp[hx]))
  have hrm:(r.map vcV).length=r.length:=Af
  cases D with
  |nil=>
   have h0:([] :List Rg).length=0:=rfl
   repeat' ((conv=>whnf);first|(exfalso;omega)|refine aB (l:=A) Aa ?_|refine aF (l:=A) (A:=[]) (x:=r) (B:=R) hp Aa ?_|refine gX (of_decide_eq_true rfl) (aM5 r) (by show(r.map vcV).length<=1000000000;omega) ?_|refine zS ?_|refine zT ?_ ?_<;>intro _|fail)
   all_goals conv=>whnf
   refine⟨([r],R),?_,hp,Af⟩;show Le T _ (mkSt [(3, .arr 19 0),(4, .sl (A.map rgV)),(5,I (0+1))] [] [(7,⟨0, .frz,39,A.map rgV⟩),(19,⟨0, .own,76,([r].flatten).map vcV⟩)]);rw[show [r].flatten=r from Af];exact zj
  |cons d D=>
   have h0:(d::D).length=D.length+1:=rfl
   repeat' ((conv=>whnf);first|(exfalso;omega)|refine aB (l:=A) Aa ?_|refine aF (l:=A) (A:=d::D) (x:=r) (B:=R) hp Aa ?_|refine iH rfl (.inl rfl) rfl (of_decide_eq_true rfl) (aM5 r) (by show(((d::D).flatten).map vcV).length+(r.map vcV).length<=1000000000;rw[List.length_map];omega) ?_|refine zS ?_|refine zT ?_ ?_<;>intro _|fail)
   all_goals conv=>whnf
   refine⟨(d::(D++[r]),R),?_,Ac,Af⟩;show Le T _ (mkSt [(3, .arr 19 (D++[r]).length),(4, .sl (A.map rgV)),(5,I (((D++[r]).length:Int)+1))] [] [(7,⟨0, .frz,39,A.map rgV⟩),(19,⟨(D++[r]).length, .own,76,((d::(D++[r])).flatten).map vcV⟩)]);rw[show((d::(D++[r])).flatten).map vcV=((d::D).flatten).map vcV++r.map vcV from Af,List.length_append,List.length_singleton];exact zj
theorem fT8{s:Sh}(h:bG s):∀e∈aC0 s,bI e:=fun e he=>by
 unfold aC0 at he;obtain⟨r,hr,q⟩:=List.mem_flatMap.1 he;exact jO (h.2.1 r hr).2.2.1 q
theorem fI8{s:Sh}(h:bG s):∀v∈rV s,Sm4 v:=fun v hv=>by
 unfold rV at hv;obtain⟨r,hr,q⟩:=List.mem_flatten.1 hv;exact vN (h.2.1 r hr).2.2.1 q
theorem fP1(a b:Sh)(ha:bG a)(hb:bG b):Sp 261 [shV a,shV b] (DB (rJ a b [2])):=by
 refine zsp Tryz.func261 ?_;have hea:=fK8 a (iT ha) ha.1;have heb:=fK8 b (iT hb) hb.1
 have oa:=fT8 ha;have ob:=fT8 hb
 have la:=bV2 (iT ha) ha.1;have lb:=bV2 (iT hb) hb.1
 have hr:rJ a b [2]↔∃x∈aC0 a,∃y∈aC0 b,dG x y=2:=by unfold rJ;simp only[List.mem_singleton]
 generalize rJ a b [2] =P at*;generalize aC0 a=A at*;generalize aC0 b=B at*;have hAm:(A.map sgV).length=A.length:=Af;have hBm:(B.map sgV).length=B.length:=Af
 repeat' ((conv=>whnf);first|refine zc hea ?_|refine zc heb ?_|refine zS ?_|fail)
 refine aU (A:=List Sg) (B:=List Sg) (fun D R=>mkSt [(5, .sl (A.map sgV)),(6, .sl (B.map sgV)),(7,I D.length)] [] []) (fun D R=>A=D++R/\∀x∈D,∀y∈B,dG x y≠2) (fun D R=>R.length) [] A ?_ ⟨rfl,Af⟩ (fun D R hp=>?_)
 ·exact Ot
 obtain⟨hp,hD⟩:=hp
 cases R with
 |nil=>exact Lr
 |cons x R=>
  have hlen:=aO hp;have ox:=oa x Ac
  repeat' ((conv=>whnf);first|(exfalso;omega)|refine zS ?_|refine zT ?_ ?_<;>intro _|fail)
  refine aU (A:=List Sg) (B:=List Sg) (fun E S=>mkSt [(5, .sl (A.map sgV)),(6, .sl (B.map sgV)),(7,I D.length),(8,I E.length)] [] []) (fun E S=>B=E++S/\∀y∈E,dG x y≠2) (fun E S=>S.length) [] B ?_ ⟨rfl,Af⟩ (fun E S hq=>?_)
  ·exact zj
  obtain⟨hq,hE⟩:=hq
  cases S with
  |nil=>exact Pq
  |cons y S=>
   have hlen2:=aO hq;have km:=fI7 x y ox (ob y Am)
   have hbad:dG x y=2->P:=fun h=>hr.2 ⟨x,Ac,y,Am,h⟩;have hgood:dG x y≠2->∀z∈E++[y],dG x z≠2:=fun h z hz=>O0
   generalize dG x y=m at*
   repeat' ((conv=>whnf);first|(exfalso;omega)|refine aB (l:=A) Aa ?_|refine aB (l:=B) Aa ?_|refine aF (l:=A) (A:=D) (x:=x) (B:=R) hp Aa ?_|refine aF (l:=B) (A:=E) (x:=y) (B:=S) hq Aa ?_|refine zc km ?_|refine zS ?_|refine zT ?_ ?_<;>intro _|fail)
   all_goals conv=>whnf
   all_goals first
    |exact aA (fE (hbad Ag))
    |skip
   refine⟨(E++[y],S),?_,⟨Am,hgood Ag⟩,Af⟩;exact P6
theorem gA9{r:Rg}(h3:3<=r.length){k:Nat}(hk:k<r.length):(bF r).drop k=aJ4 r k::(bF r).drop (k+1):=by
 have hl:=dT0 (r:=r) Aa;rw[List.drop_eq_getElem_cons Aa];congr 1;have:=fH0 h3 hk
 rw[List.getD_eq_getElem?_getD,List.getElem?_eq_getElem Aa]at this;exact this
theorem fK7(r:Rg)(v:Vc)(hr:dM r)(hv:Sm4 v):Sp 354 [rgV r,vcV v] (I (fJ r v)):=by
 refine zsp Tryz.func354 ?_;have h3:=hr.1;have h40:=hr.2.1
 have hll:(r.map vcV).length=r.length:=Af;have hE:=fZ2 hr hv
 have hel:=dT0 (r:=r) Aa;have hdr:=fun k (hk:k<r.length)=>gA9 h3 hk
 have hok:∀k,k<r.length->bI (aJ4 r k):=fun k hk=>jO hr.2.2.1 ((bC9 h3).2 ⟨k,hk,rfl⟩);have hend:(bF r).drop r.length=[] :=List.drop_eq_nil_of_le Aa
 generalize fJ r v=A at*;generalize bF r=E at*
 repeat' ((conv=>whnf);first|refine zS ?_|fail)
 refine aU (A:=Nat) (B:=Bool) (fun k ins=>mkSt [(0,rgV r),(3, .box 3 0),(5,B ins),(6,I k)] [(3,(vcV v).cells)] []) (fun k ins=>k<=r.length/\A=lU (v.1,v.2,1) (E.drop k) ins) (fun k ins=>r.length-k) 0 false ?_ ⟨Aa,hE⟩ (fun k ins hp=>?_)
 ·exact zj
 clear hE;obtain⟨hk,hA⟩:=hp;by_cases hkr:k<r.length;rotate_left
 ·have e:k=r.length:=by omega
  subst e;rw[hend,qB]at hA;exact Rx
 have heo:=hok k hkr;rw[hdr k hkr]at hA;have hm:(k+1)% r.length<r.length:=Nat.mod_lt _ Aa
 obtain⟨ha,hb⟩:=jP.1 heo;have k2:=fG4 (aJ4 r k).1 (aJ4 r k).2 v
 have hon:eX (aJ4 r k) v↔Bb (aJ4 r k) v/\kR (aJ4 r k).1 (aJ4 r k).2 v=0:=by
  rw[gZ heo];constructor
  ·rintro⟨h1,h2⟩
   refine⟨h1,?_⟩;rw[zH ha hb hv,h2];rfl
  ·rintro⟨h1,h2⟩
   refine⟨h1,?_⟩;by_cases q:X (dif (aJ4 r k).2 (aJ4 r k).1) (dif v (aJ4 r k).1)=0
   ·exact q
   ·rw[zH ha hb hv]at h2
    exact absurd h2 (tC.2 q)
 have w1:eX (aJ4 r k) v->A=1:=fun q=>by rw[hA];exact oP ((cC3 hv heo).2 q)
 have w2:¬eX (aJ4 r k) v->rayC (aJ4 r k) v (kR (aJ4 r k).1 (aJ4 r k).2 v)->A=lU (v.1,v.2,1) (E.drop (k+1)) (!ins):=fun q1 q2=>Pn;have w3:¬eX (aJ4 r k) v->¬rayC (aJ4 r k) v (kR (aJ4 r k).1 (aJ4 r k).2 v)->A=lU (v.1,v.2,1) (E.drop (k+1)) ins:=fun q1 q2=>OH
 have e1:(aJ4 r k).1=r.getD k z0:=rfl;have e2:(aJ4 r k).2=r.getD ((k+1)% r.length) z0:=rfl
 unfold rayC at w2 w3;unfold Bb at hon;rw[e1,e2]at k2 hon w2 w3;generalize eX (aJ4 r k) v=P at*;generalize hva:r.getD k z0=va at*;generalize hvb:r.getD ((k+1)% r.length) z0=vb at*;generalize kR va vb v=t at*
 repeat' ((conv=>whnf);first|(exfalso;omega)|refine cC0 [(0,999),(6,999),(16,999),(17,999),(18,999),(20,999),(23,999),(25,999),(26,999),(7,7),(8,8)] Ae Ad ?_|refine uM Aa ?_|refine aB (l:=r) Cb ?_|refine aB (l:=r) Aa ?_|(refine sW (k:=(k+1)% r.length) (kS Aa) hm ?_;rw[hvb])|(refine aU3 (k:=k) Aa hkr ?_;rw[hva])|refine zc k2 ?_|refine zS ?_|refine zT ?_ ?_<;>intro _|fail)
 all_goals conv=>whnf
 all_goals (try simp only[lH,mG]at*)
 all_goals first
  |exact aG (w1 (hon.2 ⟨⟨Aa,Aa,Aa,Aa⟩,Aa⟩)).symm
  |skip
 all_goals (have hnot:¬P:=fun q=>by have:=hon.1 q;omega)
 all_goals first
  |(have hA2:=w2 hnot Aa)
  |(have hA2:=w3 hnot Aa)
 all_goals first
  |refine⟨(k+1, !ins),?_,⟨Aa,hA2⟩,Aa⟩
  |refine⟨(k+1,ins),?_,⟨Aa,hA2⟩,Aa⟩
 all_goals (refine dV ?_ ?_ ?_ ?_)
 all_goals repeat' (first|exact trivial|refine And.intro ?_ ?_|with_reducible rfl|exact(fun h=>Ah)|exact Nat.le_refl _|omega|exact rfl)
theorem gC4{a b:Bool}{A B:Prop}(h1:a=b->A)(h2:a≠b->B):branch (eqBB a b) A B:=by
 rw[cA1];exact jU (fun h=>h1 Dq) (fun h=>h2 Dq)
theorem fH5(u v:Vc):Sp 316 [vcV u,vcV v] (DB (aP5 u v)):=by
 refine zsp Tryz.func316 ?_;have h1:=fF0 u v;have h2:=fR2 u v
 have hr:aP5 u v↔bZ u v=0/\0<vdot u v:=Iff.rfl;generalize aP5 u v=P at*;generalize bZ u v=c at*;generalize vdot u v=d at*
 repeat' ((conv=>whnf);first|refine zc h1 ?_|refine zc h2 ?_|refine zS ?_|refine zT ?_ ?_<;>intro _|fail)
 all_goals conv=>whnf
 all_goals refine aA ?_
 all_goals first
  |exact aC (fun h=>AL)
  |(refine aS1 ?_;rw[hr];omega)
theorem fL8(u v:Vc):Sp 356 [vcV u,vcV v] (DB (dG5 u v)):=by
 refine zsp Tryz.func356 ?_;have h1:=fF0 u v;have h2:=fR2 u v
 have hr:dG5 u v↔bZ u v<0\/(bZ u v=0/\vdot u v<0):=Iff.rfl;generalize dG5 u v=P at*;generalize bZ u v=c at*;generalize vdot u v=d at*
 repeat' ((conv=>whnf);first|refine zc h1 ?_|refine zc h2 ?_|refine zS ?_|refine zT ?_ ?_<;>intro _|fail)
 all_goals conv=>whnf
 all_goals refine aA ?_
 all_goals first
  |exact fE (hr.2 Aa)
  |exact aC (fun h=>AL)
  |(refine aS1 ?_;rw[hr];omega)
theorem fI1(x:Sg)(d:Vc):Sp 317 [sgV x,vcV d] (DB (aP1 x d)):=by
 refine zsp Tryz.func317 ?_;have h1:=fH5 x.1 d;have h2:=fH5 x.2 d
 have h3:=fL8 x.1 d;have h4:=fL8 x.1 x.2
 have h5:=fF0 d x.2
 have hr:aP1 x d↔¬(aP5 x.1 d\/aP5 x.2 d)/\((¬(dG5 x.1 d↔dG5 x.1 x.2)/\dG5 x.1 x.2)\/((dG5 x.1 d↔dG5 x.1 x.2)/\0<bZ d x.2)):=by
  unfold aP1;by_cases q:aP5 x.1 d\/aP5 x.2 d
  ·rw[if_pos q];exact⟨fun h=>h.elim,fun h=>h.1 q⟩
  ·rw[if_neg q]
   by_cases q2:(dG5 x.1 d↔dG5 x.1 x.2)
   ·rw[if_neg (fun h=>h q2)]
    exact⟨fun h=>⟨q, .inr ⟨q2,h⟩⟩,fun h=>h.2.elim (fun k=>absurd q2 k.1) (fun k=>k.2)⟩
   ·rw[if_pos q2]
    exact⟨fun h=>⟨q, .inl ⟨q2,h⟩⟩,fun h=>h.2.elim (fun k=>k.2) (fun k=>absurd k.1 q2)⟩
 generalize aP1 x d=P at*;generalize aP5 x.1 d=s1 at*;generalize aP5 x.2 d=s2 at*;generalize dG5 x.1 d=l1 at*;generalize dG5 x.1 x.2=l2 at*;generalize bZ d x.2=c at*;by_cases q3:l1<;>by_cases q4:l2
 ·rw[dbT q3]at h3
  rw[dbT q4]at h4;exact PO
 ·rw[dbT q3]at h3
  rw[dbF q4]at h4;have hr2:P↔¬(s1\/s2)/\False:=Ia;exact PV
 ·rw[dbF q3]at h3
  rw[dbT q4]at h4;have hr2:P↔¬(s1\/s2)/\True:=Ia;exact PV
 ·rw[dbF q3]at h3
  rw[dbF q4]at h4;exact PO
theorem fP9(x y:Sg):Sp 265 [sgV x,sgV y] (DB (dI3 x y)):=by
 refine zsp Tryz.func265 ?_;have h1:=fH5 x.1 y.1;have h2:=fI1 x y.1
 have h3:=fI1 y x.1;have hr:dI3 x y↔aP5 x.1 y.1\/aP1 x y.1\/aP1 y x.1:=Iff.rfl
 generalize dI3 x y=P at*;generalize aP5 x.1 y.1=p1 at*;generalize aP1 x y.1=p2 at*;generalize aP1 y x.1=p3 at*
 repeat' ((conv=>whnf);first|refine zc h1 ?_|refine zc h2 ?_|refine zc h3 ?_|refine zS ?_|refine zT ?_ ?_<;>intro _|fail)
 all_goals conv=>whnf
 all_goals refine aA ?_
 all_goals first
  |(refine fE (hr.2 ?_);simp_all;done)
  |(refine fQ ?_;rw[hr];simp_all;done)
theorem fR8(s:Sh)(v:Vc)(hs:bG s)(hv:Sm4 v):Sp 314 [shV s,vcV v] (I (lJ s v)):=by
 refine zsp Tryz.func314 ?_;have ho:dM s.outer:=hs.2.1 _ AA;have hh:∀r∈s.holes,dM r:=fun r hr=>hs.2.1 r DY
 have g0:=fK7 s.outer v ho hv;have hml:(s.holes.map rgV).length=s.holes.length:=Af
 have h6:=hs.1;rw[eG3 hs hv];generalize fJ s.outer v=wo at*
 repeat' ((conv=>whnf);first|refine zS ?_|fail)
 refine aU (A:=List Rg) (B:=List Rg) (fun D R=>mkSt [(2, .box 2 0),(3, .box 3 0),(5,I D.length)] [(2,(shV s).cells),(3,(vcV v).cells)] []) (fun D R=>s.holes=D++R/\lG v wo s.holes=lG v wo R) (fun D R=>R.length) [] s.holes ?_ ⟨rfl,rfl⟩ (fun D R hp=>?_)
 ·exact zj
 obtain⟨hp,hA⟩:=hp;generalize lG v wo s.holes=A at*
 cases R with
 |nil=>
  have hlen:s.holes.length=D.length:=Ac;have hA2:A=wo:=hA
  rw[hA2]
  repeat' ((conv=>whnf);first|(exfalso;omega)|refine zc g0 ?_|refine zS ?_|refine zl (fun hlt=>?_) (fun hlt=>?_))
  all_goals exact zE
 |cons h R=>
  have hlen:=aO hp;have gh:=fK7 h v (hh h Ac) hv
  have hst:lG v wo (h::R)=if fJ h v=2 then 0 else if fJ h v=1 then 1 else lG v wo R:=rfl
  rw[hst]at hA;generalize fJ h v=w at*
  repeat' ((conv=>whnf);first|(exfalso;omega)|refine aB (l:=s.holes) Aa ?_|refine aF (l:=s.holes) (A:=D) (x:=h) (B:=R) hp Aa ?_|refine zc gh ?_|refine zS ?_|refine zl (fun hlt=>?_) (fun hlt=>?_)|refine ze (fun heq=>?_) (fun heq=>?_))
  all_goals conv=>whnf
  ·exact aG (by rw[hA,if_pos heq])
  ·exact aG (by rw[hA,if_neg (by omega),if_pos heq])
  ·refine⟨(D++[h],R),?_,⟨Ac,by rw[hA,if_neg (by omega),if_neg (by omega)]⟩,Af⟩
   exact P6
theorem fJ3(a b:Sh)(n:Int)(ha:bG a)(hb:bG b):Sp 262 [shV a,shV b,I n] (DB (bL9 a b n)):=by
 refine zsp Tryz.func262 ?_;have g0:=fG7 a (iT ha) ha.1;have hv:=fI8 ha
 have hl:=cG3 ha;have hr:bL9 a b n↔∃v∈rV a,lJ b v=n:=Iff.rfl
 generalize bL9 a b n=P at*;generalize rV a=A at*;have hAm:(A.map vcV).length=A.length:=Af
 repeat' ((conv=>whnf);first|refine zc g0 ?_|refine zS ?_|fail)
 refine aU (A:=List Vc) (B:=List Vc) (fun D R=>mkSt [(2,I n),(4, .box 4 0),(7, .sl (A.map vcV)),(8,I D.length)] [(4,(shV b).cells)] []) (fun D R=>A=D++R/\∀v∈D,lJ b v≠n) (fun D R=>R.length) [] A ?_ ⟨rfl,Af⟩ (fun D R hp=>?_)
 ·refine Le.trans (fB (k:=10) rfl (.inl rfl)) ?_
  exact zj
 obtain⟨hp,hD⟩:=hp
 cases R with
 |nil=>
  have hlen:A.length=D.length:=Ac;exact Rl
 |cons x R=>
  have hlen:=aO hp;have hx:x∈A:=Ac
  have h1:=fR8 b x hb (hv x hx);have hbad:lJ b x=n->P:=fun h=>hr.2 ⟨x,hx,h⟩
  have hgood:lJ b x≠n->∀v∈D++[x],lJ b v≠n:=fun h v hv=>ML;generalize lJ b x=w at*
  repeat' ((conv=>whnf);first|(exfalso;omega)|refine aB (l:=A) Aa ?_|refine aF (l:=A) (A:=D) (x:=x) (B:=R) hp Aa ?_|refine zc h1 ?_|refine zS ?_|refine zl (fun hlt=>?_) (fun hlt=>?_)|refine ze (fun heq=>?_) (fun heq=>?_))
  all_goals conv=>whnf
  ·exact aA (fE (hbad heq))
  ·exact LQ
def secS(s:Sh)(p:Vc):Option Sg:=secL p 0 (rings s)
def secG0(x:Option Sg):Sg:=x.getD ((0,0),(0,0))
theorem gC5{i:Nat}{r:Rg}{p:Vc}(h:∀k,k<r.length->secV i r p k=none):secR i r p=none:=fE5.1.2 h
theorem gD9{i:Nat}{r:Rg}{p:Vc}{k:Nat}{x:Sg}(hk:k<r.length)(h:∀j,j<k->secV i r p j=none)(hx:secV i r p k=some x):secR i r p=some x:=by
 unfold secR;exact Rz
theorem fI3(s:Sh)(p:Vc)(hs:bG s)(hp:Sm4 p):Sp 264 [shV s,vcV p] (.tup [sgV (secG0 (secS s p)), .lit (.bool (secS s p).isSome)]):=by
 refine zsp Tryz.func264 ?_;have hrs:=fE1 s (iT hs);have hmem:∀r∈rings s,dM r:=hs.2.1
 have hlr:(rings s).length<=7:=by unfold rings;simp;have:=hs.1;omega
 have hX:secS s p=secL p 0 (rings s):=rfl;generalize secS s p=X at*;generalize rings s=rs at*;have hmm:(rs.map rgV).length=rs.length:=Af
 repeat' ((conv=>whnf);first|refine zc hrs ?_|refine zS ?_|fail)
 refine aU (A:=List Rg) (B:=List Rg) (fun D R=>mkSt [(2, .box 2 0),(3, .box 3 0),(4, .box 4 0),(6, .sl (rs.map rgV)),(7,I D.length)] [(2,(shV s).cells),(3,(vcV p).cells),(4,[I 0,I 0,I 0,I 0])] []) (fun D R=>rs=D++R/\X=secL p D.length R) (fun D R=>R.length) [] rs ?_ ⟨rfl,hX⟩ (fun D R hq=>?_)
 ·refine Le.trans (fB (k:=15) rfl (.inl rfl)) ?_
  exact zj
 clear hX;obtain⟨hq,hL⟩:=hq
 cases R with
 |nil=>
  have hlen:rs.length=D.length:=Am;have hx:X=none:=hL
  rw[hx];exact Qd
 |cons r R=>
  have hlen:=aO hq;have hr:=hmem r Am
  have h3:=hr.1;have h40:=hr.2.1
  have hrm:(r.map vcV).length=r.length:=Af
  repeat' ((conv=>whnf);first|(exfalso;omega)|refine aB (l:=rs) Aa ?_|refine aF (l:=rs) (A:=D) (x:=r) (B:=R) hq Aa ?_|refine zS ?_|refine zT ?_ ?_<;>intro _|fail)
  refine lD (A:=Nat) (fun k=>mkSt [(2, .box 2 0),(3, .box 3 0),(4, .box 4 0),(6, .sl (rs.map rgV)),(7,I D.length),(8,rgV r),(9,I k)] [(2,(shV s).cells),(3,(vcV p).cells),(4,[I 0,I 0,I 0,I 0])] []) (fun k=>k<=r.length/\∀j,j<k->secV D.length r p j=none) (fun k=>r.length-k) 0 ?_ ⟨Aa,fun j hj=>absurd hj Aa⟩ (fun k hk=>?_)
  ·exact zj
  obtain⟨hk,hN⟩:=hk;by_cases hkr:k<r.length;rotate_left
  ·have e:k=r.length:=by omega
   subst e
   repeat' ((conv=>whnf);first|(exfalso;omega)|refine zS ?_|refine zT ?_ ?_<;>intro _|fail)
   all_goals conv=>whnf
   refine⟨(D++[r],R),?_,⟨Am,?_⟩,Af⟩
   ·exact J8
   ·rw[hL,secL,gC5 hN,List.length_append,List.length_singleton];rfl
  have hm1:(k+1)% r.length<r.length:=Nat.mod_lt _ Aa;have hm2:(k+2)% r.length<r.length:=Nat.mod_lt _ Aa
  have hF:∀x,secV D.length r p k=some x->X=some x:=fun x hx=>by rw[hL,secL,gD9 hkr hN hx];rfl
  have hN1:secV D.length r p k=none->∀j,j<k+1->secV D.length r p j=none:=fun h j hj=>by
   by_cases e:j=k
   ·subst e;exact h
   ·exact hN j Aa
  have hV:secV D.length r p k=open Classical in if r.getD ((k+1)% r.length) z0=p then some (fE8 D.length (vsub (r.getD ((k+2)% r.length) z0) p,vsub (r.getD k z0) p))
   else if r.getD k z0≠p/\eX (r.getD k z0,r.getD ((k+1)% r.length) z0) p then some (fE8 D.length (vsub (r.getD ((k+1)% r.length) z0) (r.getD k z0),vsub (r.getD k z0) (r.getD ((k+1)% r.length) z0)))else none:=rfl
  generalize hvs:secV D.length r p k=SV at*;generalize hva:r.getD k z0=va at*;generalize hvb:r.getD ((k+1)% r.length) z0=vb at*;generalize hvc:r.getD ((k+2)% r.length) z0=vc at*;have c1:=fD vc p;have c2:=fD va p
  have c3:=fD vb va;have c4:=fD va vb
  have c5:=fN7 (va,vb) p;by_cases h0:0<D.length
  ·have hfl:∀x:Sg,fE8 D.length x=(x.2,x.1):=fun x=>if_pos h0
   exact PD
  ·have hfl:∀x:Sg,fE8 D.length x=x:=fun x=>if_neg h0
   exact PD
theorem gA8{c s:Sh}(hc:bG c)(hs:bG s):aO3 c s↔¬rJ c s [2]/\¬bL9 s c 0/\¬bL9 c s 2/\∀p∈rV c++rV s,fH8 c s p:=by
 have hsm:∀p∈rV c++rV s,Sm4 p:=fun p hp=>OO;unfold aO3 bD2;constructor
 ·rintro⟨h1,h2,h3,h4⟩
  exact⟨h1,h2,h3,fun p hp=>(fT3 hc hs (hsm p hp)).1 (h4 p hp)⟩
 ·rintro⟨h1,h2,h3,h4⟩
  exact⟨h1,h2,h3,fun p hp=>(fT3 hc hs (hsm p hp)).2 (h4 p hp)⟩
theorem fR5(c s:Sh)(hc:bG c)(hs:bG s):Sp 210 [shV c,shV s] (DB (aO3 c s)):=by
 refine zsp Tryz.func210 ?_;have g1:=fP1 c s hc hs;have g2:=fJ3 s c 0 hs hc
 have g3:=fJ3 c s 2 hc hs;have g4:=fG7 c (iT hc) hc.1
 have g5:=fG7 s (iT hs) hs.1;have v1:=cG3 hc
 have v2:=cG3 hs;have hsm:∀p∈rV c++rV s,Sm4 p:=fun p hp=>OO
 have hr:=gA8 hc hs;generalize aO3 c s=P at*;generalize rJ c s [2] =p1 at*;generalize bL9 s c 0=p2 at*;generalize bL9 c s 2=p3 at*;generalize rV c=A at*;generalize rV s=B at*;have hAm:(A.map vcV).length=A.length:=Af
 have hBm:(B.map vcV).length=B.length:=Af
 repeat' ((conv=>whnf);first|refine zc g1 ?_|refine zc g2 ?_|refine zc g3 ?_|refine zc g4 ?_|refine zc g5 ?_|refine iH rfl (.inl rfl) rfl (of_decide_eq_true rfl) (aM5 B) (by show(A.map vcV).length+(B.map vcV).length<=1000000000;omega) ?_|refine zS ?_|refine zT ?_ ?_<;>intro _|fail)
 all_goals conv=>whnf
 ·exact aA (aC (fun h=>absurd Ag (hr.1 h).1))
 ·exact aA (aC (fun h=>absurd Ag (hr.1 h).2.1))
 ·exact aA (aC (fun h=>absurd Ag (hr.1 h).2.2.1))
 have hr2:P↔∀p∈A++B,fH8 c s p:=⟨fun h=>(hr.1 h).2.2.2,fun h=>hr.2 ⟨Ag,Ag,Ag,h⟩⟩;clear hr;have hCm:(A++B).length=A.length+B.length:=List.length_append
 have hmap:A.map vcV++B.map vcV=(A++B).map vcV:=Af;generalize hC:A++B=C at*;have hCl:(C.map vcV).length=C.length:=Af
 refine aU (A:=List Vc) (B:=List Vc) (fun D R=>mkSt [(2, .box 2 0),(3, .box 3 0),(5, .sl (C.map vcV)),(6,I D.length)] [(2,(shV c).cells),(3,(shV s).cells)] []) (fun D R=>C=D++R/\∀q∈D,fH8 c s q) (fun D R=>R.length) [] C ?_ ⟨rfl,Af⟩ (fun D R hp=>?_)
 ·rw[<-hmap]
  refine Le.trans (fB (k:=25) rfl (.inl rfl)) ?_;exact zj
 obtain⟨hp,hD⟩:=hp
 cases R with
 |nil=>
  have hlen:C.length=D.length:=Ac
  repeat' ((conv=>whnf);first|(exfalso;omega)|refine zS ?_|refine zT ?_ ?_<;>intro _|fail)
  all_goals conv=>whnf
  refine aA (fE (hr2.2 fun q hq=>?_));rw[hp,List.append_nil]at hq;exact hD q hq
 |cons q R=>
  have hlen:=aO hp;have hqC:q∈C:=Ac
  have s1:=fI3 c q hc (hsm q hqC);have s2:=fI3 s q hs (hsm q hqC)
  have hT:fH8 c s q↔∀x y,secS c q=some x->secS s q=some y->¬dI3 (x.2,x.1) y:=Iff.rfl;have hgood:fH8 c s q->∀z∈D++[q],fH8 c s z:=fun h z hz=>JO
  generalize secS c q=X at*;generalize secS s q=Y at*;rcases X with _|x
  ·skip
   repeat' ((conv=>whnf);first|(exfalso;omega)|refine cC0 [(2,2),(3,3),(5,999),(6,999),(37,999),(38,999),(39,999),(46,999),(47,999),(48,999),(7,7),(9,9)] Ae Ad ?_|refine aB (l:=C) Aa ?_|refine aF (l:=C) (A:=D) (x:=q) (B:=R) hp Aa ?_|refine zc s1 ?_|refine zc s2 ?_|refine zS ?_|refine zT ?_ ?_<;>intro _|fail)
   all_goals conv=>whnf
   refine⟨(D++[q],R),?_,⟨Ac,hgood (hT.2 (fun u w hu=>by cases hu))⟩,Af⟩
   exact P6
  rcases Y with _|y
  ·skip
   repeat' ((conv=>whnf);first|(exfalso;omega)|refine cC0 [(2,2),(3,3),(5,999),(6,999),(37,999),(38,999),(39,999),(46,999),(47,999),(48,999),(7,7),(9,9)] Ae Ad ?_|refine aB (l:=C) Aa ?_|refine aF (l:=C) (A:=D) (x:=q) (B:=R) hp Aa ?_|refine zc s1 ?_|refine zc s2 ?_|refine zS ?_|refine zT ?_ ?_<;>intro _|fail)
   all_goals conv=>whnf
   refine⟨(D++[q],R),?_,⟨Ac,hgood (hT.2 (fun u w _ hw=>by cases hw))⟩,Af⟩
   exact P6
  have k:=fP9 (x.2,x.1) y
  have hT2:fH8 c s q↔¬dI3 (x.2,x.1) y:=by
   rw[hT];constructor
   ·intro h;exact h x y rfl rfl
   ·intro h u w hu hw;cases hu;cases hw;exact h
  generalize dI3 (x.2,x.1) y=cm at*
  repeat' ((conv=>whnf);first|(exfalso;omega)|refine cC0 [(2,2),(3,3),(5,999),(6,999),(37,999),(38,999),(39,999),(46,999),(47,999),(48,999),(7,7),(9,9)] Ae Ad ?_|refine aB (l:=C) Aa ?_|refine aF (l:=C) (A:=D) (x:=q) (B:=R) hp Aa ?_|refine zc s1 ?_|refine zc s2 ?_|refine zc k ?_|refine zS ?_|refine zT ?_ ?_<;>intro _|fail)
  all_goals conv=>whnf
  all_goals first
   |exact aA (aC (fun h=>absurd Ag (hT2.1 (hr2.1 h q hqC))))
   |skip
  refine⟨(D++[q],R),?_,⟨Ac,hgood (hT2.2 Ag)⟩,Af⟩;exact P6
theorem fG0(c s:Sh)(hc:gV c)(hs:gV s):Sp 157 [shV c,shV s] (.tup [DB (lI c s),I (pO c s)]):=by
 refine zsp Tryz.func157 ?_;have m1:=aD7 c hc;have m2:=aD7 s hs
 by_cases h1:bG c
 ·by_cases h2:bG s
  ·have e1:DB (lI c s)=DB (aO3 c s):=congrArg (fun b=>V.lit (.bool b)) (fQ ⟨fun h=>h.2.2,fun h=>⟨h1,h2,h⟩⟩)
   have e2:pO c s=0:=if_pos ⟨h1,h2⟩;have m3:=fR5 c s h1 h2
   exact QU
  ·exact KH
 ·exact KO
theorem cZ1(c:Int):fnVC T Tryz.prog Tryz.f153 [U c] (.lit (.bool (decB (jA c)))):=by
 repeat' ((conv=>whnf);first|refine zS ?_|refine zT ?_ ?_<;>intro _|fail)
 all_goals conv=>whnf
 all_goals refine aA ?_
 all_goals first
  |exact fE Hz
  |(refine le_dec ?_;unfold jA;omega)
  |exact aC Hz
theorem aO8(c:Int):Sp 153 [U c] (.lit (.bool (decB (jA c)))):=zsp Tryz.func153 (cZ1 c)
theorem dP4(c:Int):fnVC T Tryz.prog Tryz.f207 [U c] (.lit (.bool (decB (isDigit c)))):=by
 repeat' ((conv=>whnf);first|refine zS ?_|refine zT ?_ ?_<;>intro _|fail)
 all_goals conv=>whnf
 all_goals refine aA ?_
 all_goals first
  |(refine le_dec ?_;unfold isDigit;omega)
  |exact aC (by unfold isDigit;omega)
theorem cH4(c:Int):Sp 207 [U c] (.lit (.bool (decB (isDigit c)))):=zsp Tryz.func207 (dP4 c)
theorem dS9(s:ByteArray)(hs:s.size<=1000000000):fnVC T Tryz.prog Tryz.f154 [S s,I 0] (I (whS fG s 0)):=by
 repeat' ((conv=>whnf);first|refine zS ?_|fail)
 refine lD (A:=Nat) (fun k=>mkSt [(0,S s),(1,I 0),(5,I k)] [] []) (fun k=>k<=s.size/\whS fG s k=whS fG s 0) (fun k=>s.size-k) 0 ?_ ⟨Nat.zero_le _,rfl⟩ (fun k hk=>?_)
 ·exact zj
 ·obtain⟨hkz,hk⟩:=hk
  rcases Nat.lt_or_ge k s.size with hlt|hge
  ·obtain⟨f,hf⟩:∃f,s.size-k=f+1:=⟨s.size-k-1,Aa⟩
   have hks:whS fG s k=wh (fun j=>decB (fG (byteAt s j))) (f+1) k:=by unfold whS;rw[hf]
   have hix:((0:Int)+k).toNat=k:=Aa;have hget:byteAt s ((0:Int)+k).toNat=byteAt s k:=by rw[hix]
   have cont:fG (byteAt s k)->whS fG s (k+1)=whS fG s 0:=fun h=>by
    rw[<-hk,hks,dG8 (dH.2 h)];unfold whS;rw[show s.size- (k+1)=f from Aa]
   have stop:¬fG (byteAt s k)->(k:Int)=whS fG s 0:=fun h=>by
    rw[<-hk,hks,dE4 (dW.2 h)]
   repeat' ((conv=>whnf);first|(exfalso;omega)|refine zc (aO8 (byteAt s ((0:Int)+k).toNat)) ?_|refine zc (cH4 (byteAt s ((0:Int)+k).toNat)) ?_|refine zS ?_|refine zd (fun hd=>?_) (fun hd=>?_)|refine zl (fun hlt=>?_) (fun hlt=>?_)|refine ze (fun heq=>?_) (fun heq=>?_))
   all_goals rw[hget]at*
   ·conv=>whnf
    refine⟨k+1,?_,⟨Aa,cont (.inl hd)⟩,Aa⟩;exact zj
   ·conv=>whnf
    refine⟨k+1,?_,⟨Aa,cont (.inr (.inl hd))⟩,Aa⟩;exact zj
   ·conv=>whnf
    refine⟨k+1,?_,⟨Aa,cont (.inr (.inr heq))⟩,Aa⟩;exact zj
   ·conv=>whnf
    refine aG (stop ?_);rename_i h1;rintro(h|h|h)
    ·exact h1 h
    ·exact hd h
    ·exact heq h
  ·have hks:whS fG s k=k:=by unfold whS;rw[show s.size-k=0 from Aa];rfl
   exact RF
theorem cO5(s:ByteArray)(hs:s.size<=1000000000):Sp 154 [S s,I 0] (I (whS fG s 0)):=zsp Tryz.func154 (dS9 s hs)
theorem dX9(s:ByteArray):fnVC T Tryz.prog Tryz.f78 [S s] (.lit (.bool (decB (iM s)))):=by
 rcases Nat.lt_or_ge 16 s.size with hbig|hsm
 ·repeat' ((conv=>whnf);first|(exfalso;omega)|refine zS ?_|refine zk (fun hle=>?_) (fun hle=>?_))
  all_goals conv=>whnf
  all_goals refine aA ?_
  all_goals exact aC (fun h=>by have:=h.2.1;omega)
 ·repeat' ((conv=>whnf);first|refine cK2 ⟨Aa,Aa⟩ ?_|refine zc (aO8 (byteAt s 0)) ?_|refine zc (cO5 s Aa) ?_|(exfalso;omega)|refine zS ?_|refine zd (fun hd=>?_) (fun hd=>?_)|refine zk (fun hle=>?_) (fun hle=>?_))
  ·conv=>whnf
   refine aA (sK ?_);have hw:=cV4 (fun j=>decB (fG (byteAt s j))) s.size 0;have hs0:whS fG s 0=wh (fun j=>decB (fG (byteAt s j))) s.size 0:=rfl
   exact Qx
  ·conv=>whnf
   exact aA (aC (fun h=>hd h.2.2.1))
  ·conv=>whnf
   exact aA (aC (fun h=>EU))
theorem bD8(s:ByteArray):Sp 78 [S s] (.lit (.bool (decB (iM s)))):=zsp Tryz.func78 (dX9 s)
theorem fK9(id:Int)(g h:ByteArray):Sp 84 [I id,S g,S h] (DB (kZ id g h)):=by
 refine zsp Tryz.func84 ?_;have h1:=bD8 g;have h2:=bD8 h
 have hr:kZ id g h↔1<=id/\id<=1000000/\iM g/\iM h:=Iff.rfl;generalize kZ id g h=P at*;generalize iM g=p1 at*;generalize iM h=p2 at*
 repeat' ((conv=>whnf);first|refine zc h1 ?_|refine zc h2 ?_|refine zS ?_|refine zT ?_ ?_<;>intro _|fail)
 all_goals conv=>whnf
 all_goals first
  |exact aA (fQ ⟨fun h=>hr.2 ⟨Aa,Aa,Ag,h⟩,fun h=>(hr.1 h).2.2.2⟩)
  |exact aA (aC (fun h=>AL))
  |exact aA (aC (fun h=>absurd (hr.1 h).2.2.1 Ag))
  |exact aA (le_dec ⟨fun h=>Aa,fun h=>AL⟩)
theorem fR3(b:Bar)(hl:b.defects.length<=9223372036854775807):Sp 27 [barV b] (DB (fM b)):=by
 refine zsp Tryz.func27 ?_;have h1:=fK9 b.id b.grade b.heat;have hm:(b.defects.map ivV).length=b.defects.length:=Af
 have hr:fM b↔kZ b.id b.grade b.heat/\1<=b.length/\b.length<=2000/\b.defects.length<=6/\sU b.length 0 b.defects:=Iff.rfl;generalize fM b=P at*;generalize kZ b.id b.grade b.heat=p1 at*
 repeat' ((conv=>whnf);first|refine zc h1 ?_|refine zS ?_|refine zT ?_ ?_<;>intro _|fail)
 all_goals conv=>whnf
 all_goals first
  |exact aA (aC (fun h=>AL))
  |exact aA (aC (fun h=>absurd (hr.1 h).1 Ag))
  |skip
 have hP:P↔sU b.length 0 b.defects:=⟨fun h=>(hr.1 h).2.2.2.2,fun h=>hr.2 ⟨Ag,Aa,Aa,Aa,h⟩⟩;clear hr;refine oU (A:=Int) (B:=List Iv) (C:=List Iv) (fun e D R=>mkSt [(1, .box 1 0),(3,I e),(4,I D.length)] [(1,barC b)] []) (fun e D R=>b.defects=D++R/\(P↔sU b.length e R)) (fun e D R=>R.length) 0 [] b.defects ?_ ⟨rfl,hP⟩ (fun e D R hp=>?_)
 ·exact zj
 obtain⟨hp,hP⟩:=hp
 cases R with
 |nil=>
  have hlen:b.defects.length=D.length:=Ac;clear hp
  repeat' ((conv=>whnf);first|(exfalso;omega)|refine zS ?_|refine zT ?_ ?_<;>intro _|fail)
  all_goals conv=>whnf
  exact aA (fE (hP.2 trivial))
 |cons d R=>
  have hlen:=aO hp;have hP2:P↔e<=d.1/\d.1<d.2/\d.2<=b.length/\sU b.length d.2 R:=hP
  repeat' ((conv=>whnf);first|(exfalso;omega)|refine aB (l:=b.defects) Aa ?_|refine aF (l:=b.defects) (A:=D) (x:=d) (B:=R) hp Aa ?_|refine zS ?_|refine zT ?_ ?_<;>intro _|fail)
  all_goals conv=>whnf
  all_goals first
   |exact aA (aC (fun h=>by have:=hP2.1 h;omega))
   |skip
  refine⟨(d.2,D++[d],R),?_,⟨Ac,⟨fun h=>(hP2.1 h).2.2.2,fun h=>hP2.2 ⟨Aa,Aa,Aa,h⟩⟩⟩,Af⟩;exact P6
end Go.Proofs.Led
