/-
  The reference's sheets and remnants, walked.
-/
import Derived.Test.YtkhhdojgbkophaaGreatQB22
import Derived.Test.YtkhhdojgbkophaaGreatQB13
set_option linter.unusedVariables false
set_option linter.unusedSimpArgs false
set_option maxRecDepth 100000
set_option maxHeartbeats 8000000
noncomputable section
namespace Go.Proofs.Led
open Go Go.Proofs Go.Ab
theorem gE5(b:Bx)(v:Vc)(h1:b.1.1<=b.2.1)(h2:b.1.2<=b.2.2):(dQ (gU b v).1/\dQ (gU b v).2)↔(dQ b.1/\dQ b.2)/\dQ v:=by
 unfold dQ gU;simp only;constructor
 ·rintro⟨⟨a,b⟩,c,d⟩
  refine⟨⟨⟨?_,?_⟩,?_,?_⟩,?_,?_⟩<;>omega
 ·rintro⟨⟨⟨a,b⟩,c,d⟩,e,f⟩
  refine⟨⟨?_,?_⟩,?_,?_⟩<;>omega
theorem fS9:∀(l:List Vc) (b:Bx),b.1.1<=b.2.1->b.1.2<=b.2.2->((dQ (l.foldl gU b).1/\dQ (l.foldl gU b).2)↔(dQ b.1/\dQ b.2)/\∀v∈l,dQ v)
 | [],b,_,_=>⟨fun h=>⟨h,fun v hv=>by cases hv⟩,fun h=>h.1⟩
 |v::l,b,h1,h2=>by
  rw[List.foldl_cons,fS9 l (gU b v) (by unfold gU;simp only;omega) (by unfold gU;simp only;omega),gE5 b v h1 h2]
  constructor
  ·rintro⟨⟨a,c⟩,d⟩
   refine⟨a,fun w hw=>?_⟩;rcases List.mem_cons.1 hw with rfl|hw
   ·exact c
   ·exact d w hw
  ·rintro⟨a,c⟩
   exact⟨⟨a,c v (List.mem_cons_self ..)⟩,fun w hw=>c w (List.mem_cons_of_mem _ hw)⟩
theorem fX1{s:Sh}(h:bG s):(dQ (boxS s).1.1/\dQ (boxS s).1.2)↔∀v∈s.outer,dQ v:=by
 have hr:dM s.outer:=h.2.1 _ AA;rw[eG7 h,dX3 hr];have h3:=hr.1
 generalize s.outer=r at*
 cases r with
 |nil=>exact absurd h3 Af
 |cons v l=>
  show dQ (((v::l).foldl gU (v,v))).1/\dQ (((v::l).foldl gU (v,v))).2↔_;rw[fS9 (v::l) (v,v) (Int.le_refl _) (Int.le_refl _)];constructor
  ·exact fun q=>q.2
  ·exact fun q=>⟨⟨q v (List.mem_cons_self ..),q v (List.mem_cons_self ..)⟩,q⟩
theorem fS4(s:jL)(hs:lK s):Sp 80 [zJ s] (DB (dB s)):=by
 refine zsp Tryz.func80 ?_;obtain⟨hs1,hs2,hs3⟩:=hs;have h2:=fK9 s.id s.grade s.heat;have h3:=fE6 s.shape hs1
 have hr:dB s↔kZ s.id s.grade s.heat/\0<=s.grain/\s.grain<=2/\jV s.shape/\s.defects.length<=6/\(dQ (boxS s.shape).1.1/\dQ (boxS s.shape).1.2)/\∀d∈s.defects,qQ s.shape d:=
  ⟨fun⟨a,b,c,d,e,f,g,h⟩=>⟨a,b,c,d,e,⟨f,g⟩,h⟩,fun⟨a,b,c,d,e,⟨f,g⟩,h⟩=>⟨a,b,c,d,e,f,g,h⟩⟩
 have hbx:jV s.shape->((dQ (boxS s.shape).1.1/\dQ (boxS s.shape).1.2)↔∀v∈s.shape.outer,dQ v):=fun h=>fX1 h.1;have hl:(s.defects.map shV).length=s.defects.length:=Af
 have hl2:(s.shape.outer.map vcV).length=s.shape.outer.length:=Af;have ho:=hs1.1
 have hdf:∀d,qQ s.shape d↔jV d/\pO s.shape d=0/\lI s.shape d:=fun d=>Iff.rfl;generalize dB s=P at*;generalize kZ s.id s.grade s.heat=p1 at*;generalize jV s.shape=p2 at*;generalize (dQ (boxS s.shape).1.1/\dQ (boxS s.shape).1.2)=p3 at*
 repeat' ((conv=>whnf);first|refine zS ?_|refine zT ?_ ?_<;>intro _|fail)
 all_goals conv=>whnf
 all_goals first
  |exact aA (aC (fun h=>absurd (hr.1 h).1 Ag))
  |exact aA (aC (fun h=>absurd (hr.1 h).2.2.2.1 Ag))
  |exact aA (aC (fun h=>AZ))
  |skip
 have hb:=hbx Ag;clear hbx;have hP:P↔(∀v∈s.shape.outer,dQ v)/\∀d∈s.defects,qQ s.shape d:=⟨fun h=>⟨hb.1 (hr.1 h).2.2.2.2.2.1,(hr.1 h).2.2.2.2.2.2⟩,fun h=>hr.2 ⟨Ag,Aa,Aa,Ag,Aa,hb.2 h.1,h.2⟩⟩
 clear hr hb;refine aU (A:=List Vc) (B:=List Vc) (fun D R=>mkSt [(1, .box 1 0),(3,I D.length)] [(1,aA7 s)] []) (fun D R=>s.shape.outer=D++R/\∀v∈D,dQ v) (fun D R=>R.length) [] s.shape.outer ?_ ⟨rfl,Af⟩ (fun D R hp=>?_)
 ·exact zj
 obtain⟨hp,hD⟩:=hp
 cases R with
 |cons v R=>
  have hlen:=aO hp;have hvm:v∈s.shape.outer:=Ac
  have g1:=fF5 v;have hgood:dQ v->∀z∈D++[v],dQ z:=fun h z hz=>JO
  have hbad:¬dQ v->¬P:=fun h q=>h ((hP.1 q).1 v hvm);generalize dQ v=ov at*
  repeat' ((conv=>whnf);first|(exfalso;omega)|refine zS ?_|refine zT ?_ ?_<;>intro _|fail)
  all_goals conv=>whnf
  all_goals first
   |exact aA (aC (hbad Ag))
   |skip
  refine⟨(D++[v],R),?_,⟨Ac,hgood Ag⟩,Af⟩;exact P6
 |nil=>
 have hlen:s.shape.outer.length=D.length:=Ac;have hP2:P↔∀d∈s.defects,qQ s.shape d:=⟨fun h=>(hP.1 h).2,fun h=>hP.2 ⟨fun v hv=>Ee,h⟩⟩
 clear hP
 repeat' ((conv=>whnf);first|(exfalso;omega)|refine zS ?_|refine zT ?_ ?_<;>intro _|fail)
 refine aU (A:=List Sh) (B:=List Sh) (fun D R=>mkSt [(1, .box 1 0),(4,I D.length)] [(1,aA7 s)] []) (fun D R=>s.defects=D++R/\∀d∈D,qQ s.shape d) (fun D R=>R.length) [] s.defects ?_ ⟨rfl,Af⟩ (fun D R hp=>?_)
 ·exact zj
 obtain⟨hp,hD⟩:=hp
 cases R with
 |nil=>exact Lu
 |cons d R=>
  have hlen:=aO hp;have hdm:d∈s.defects:=Ac
  have g1:=fG0 s.shape d hs1 (hs3 d hdm);have g2:=fE6 d (hs3 d hdm)
  have hq:=hdf d;have hE:jV d->lI s.shape d->pO s.shape d=0:=fun _ h=>if_pos ⟨h.1,h.2.1⟩
  generalize jV d=q1 at*;generalize pO s.shape d=q2 at*;generalize lI s.shape d=q3 at*
  repeat' ((conv=>whnf);first|(exfalso;omega)|refine zS ?_|refine zT ?_ ?_<;>intro _|fail)
  all_goals conv=>whnf
  all_goals first
   |exact aA (aC (fun h=>absurd (hq.1 (hP2.1 h d hdm)).1 Ag))
   |exact aA (aC (fun h=>absurd (hq.1 (hP2.1 h d hdm)).2.2 Ag))
   |skip
  refine⟨(D++[d],R),?_,⟨Ac,fun z hz=>?_⟩,Af⟩
  ·exact J8
  ·rcases List.mem_append.1 hz with hz|hz
   ·exact hD z hz
   ·rw[List.mem_singleton.1 hz]
    exact hq.2 ⟨Ag,hE Ag Ag,Ag⟩
theorem fR1{p q:Vc}(h:RB p.1 p.2 q.1 q.2):sV p q=rS p.1 p.2 q.1 q.2:=by
 obtain⟨x0,x1,x2,y0,y1,y2⟩:=h;unfold sV;rw[if_neg]
 ·rfl
 ·rintro(h|h|h|h)
  ·omega
  ·omega
  ·exact h (qN Aa Aa Aa Aa Aa)
  ·exact h (qN Aa Aa Aa Aa Aa)
theorem fO0{x:Bx}{v:Vc}(h:RB (x.1.1-v.1) (x.1.2-v.2) (x.2.1-v.1) (x.2.2-v.2)):sV (vsub x.1 v) (vsub x.2 v)=jT x v:=by
 have hh:=h;rw[cL4 h];obtain⟨x0,x1,x2,y0,y1,y2⟩:=h;rw[kN ⟨Aa,Aa⟩ ⟨Aa,Aa⟩,kN ⟨Aa,Aa⟩ ⟨Aa,Aa⟩];exact fR1 hh
def fG1(s:jL)(b:Bx)(id:Int)(r:Sh)(X:List Sh)(n:Int):St:=match X with
 | [] =>mkSt [(3, .box 3 0),(4, .box 4 0),(6, .box 6 0),(7,I 0),(10, .box 10 0),(11,I n)]
   [(3,aA7 s),(4,(bxV b).cells),(6,[I 0,S aI,S aI,I 0,nilV,nilV,nilV]),(10,[I id,S s.grade,S s.heat,I s.grain,rgV r.outer, .sl (r.holes.map rgV),nilV])] []
 |x::X=>mkSt [(3, .box 3 0),(4, .box 4 0),(6, .box 6 0),(7,I 0),(10, .box 10 0),(11,I n)]
  [(3,aA7 s),(4,(bxV b).cells),(6,[I 0,S aI,S aI,I 0,nilV,nilV,nilV]),(10,[I id,S s.grade,S s.heat,I s.grain,rgV r.outer, .sl (r.holes.map rgV), .arr 156 X.length])] [(156,⟨X.length, .own,42,(x::X).map shV⟩)]
theorem fP0(s:jL)(b:Bx)(id:Int)(hs:lK s):Sp 205 [zJ s,bxV b,I id] (.tup [zJ (remS s b id),I (remE s b id)]):=by
 refine zsp Tryz.func205 ?_;have h1:=fS4 s hs;have h4:=fF5 b.1
 have h5:=fF5 b.2;have h6:=fH3 b.1 b.2
 have h7:=fG0 s.shape (sV b.1 b.2) hs.1 (cW6 b.1 b.2);have h8:=fD b.2 b.1
 have h9:=fH3 (0,0) (vsub b.2 b.1);have hid:nC id↔1<=id/\id<=1000000:=Iff.rfl
 have hw:xH b↔b.1.1<b.2.1/\b.1.2<b.2.2:=Iff.rfl;by_cases c1:dB s;rotate_left
 ·have e1:remE s b id=1:=by unfold remE;rw[if_pos c1]
  have e2:remS s b id=dN:=Bo;rw[e1,e2]
  repeat' ((conv=>whnf);first|(exfalso;contradiction)|refine zc h1 ?_|refine zS ?_|refine zd (fun hd=>?_) (fun hd=>?_))
  all_goals exact zE
 by_cases c2:nC id/\xH b/\dQ b.1/\dQ b.2;rotate_left
 ·have e1:remE s b id=2:=by unfold remE;rw[if_neg (fun h=>h c1),if_pos c2]
  have e2:remS s b id=dN:=Bo;rw[e1,e2];generalize dQ b.1=o1 at*;generalize dQ b.2=o2 at*
  repeat' ((conv=>whnf);first|(exfalso;contradiction)|(exfalso;exact c2 ⟨hid.2 ⟨Aa,Aa⟩,hw.2 ⟨Aa,Aa⟩,Ag,Ag⟩)|refine zc h1 ?_|refine zc h4 ?_|refine zc h5 ?_|refine zS ?_|refine zd (fun hd=>?_) (fun hd=>?_)|refine zl (fun hlt=>?_) (fun hlt=>?_)|refine zk (fun hle=>?_) (fun hle=>?_))
  all_goals exact zE
 obtain⟨c21,c22,c23,c24⟩:=c2;have hidn:=hid.1 c21;have hwn:=hw.1 c22
 have hs1:0<=min b.1.1 b.1.2/\max b.1.1 b.1.2<=1900:=c23;have hs2:0<=min b.2.1 b.2.2/\max b.2.1 b.2.2<=1900:=c24
 have e0:sV b.1 b.2=jT b (0,0):=by
  rw[fR1 (p:=b.1) (q:=b.2) ⟨Aa,Aa,Aa,Aa,Aa,Aa⟩,cL4 (x:=b) (v:=(0,0)) ⟨Ai,Ai,Ai,Ai,Ai,Ai⟩];simp only[Int.sub_zero]
 rw[e0]at h6 h7;by_cases c3:lI s.shape (jT b (0,0));rotate_left
 ·have e1:remE s b id=13:=by unfold remE;rw[if_neg (fun h=>h c1),if_neg (fun h=>h ⟨c21,c22,c23,c24⟩),if_pos c3]
  have e2:remS s b id=dN:=Bo;rw[e1,e2]
  repeat' ((conv=>whnf);first|(exfalso;contradiction)|(exfalso;omega)|refine zc h1 ?_|refine zc h4 ?_|refine zc h5 ?_|refine zc h6 ?_|refine zc h7 ?_|refine zS ?_|refine zd (fun hd=>?_) (fun hd=>?_)|refine zl (fun hlt=>?_) (fun hlt=>?_)|refine zk (fun hle=>?_) (fun hle=>?_))
  all_goals exact zE
 have e1:remE s b id=0:=Cc;have e2:remS s b id=⟨id,s.grade,s.heat,s.grain,jT b b.1,kJ b s.defects⟩:=by unfold remS;rw[if_pos e1]
 have e3:sV (0,0) (vsub b.2 b.1)=jT b b.1:=by
  rw[<-fO0 (x:=b) (v:=b.1) ⟨Aa,Aa,Aa,Aa,Aa,Aa⟩]
  have e:vsub b.1 b.1=(0,0):=by
   rw[kN ⟨Aa,Aa⟩ ⟨Aa,Aa⟩,Int.sub_self,Int.sub_self]
  rw[e]
 rw[e3]at h9;rw[e1,e2];have hl:(s.defects.map shV).length=s.defects.length:=Af
 have hq0:∀d:Sh,xH (nV (boxS d).1 b)->sV (vsub (nV (boxS d).1 b).1 b.1) (vsub (nV (boxS d).1 b).2 b.1)=jT (nV (boxS d).1 b) b.1:=fun d hd=>by
  have hd2:(nV (boxS d).1 b).1.1< (nV (boxS d).1 b).2.1/\(nV (boxS d).1 b).1.2< (nV (boxS d).1 b).2.2:=hd;refine fO0 ?_;unfold nV at hd2⊢;simp only at hd2⊢;exact⟨Aa,Aa,Aa,Aa,Aa,Aa⟩
 generalize jT b b.1=r1 at*;generalize jT b (0,0)=r0 at*;generalize hvb:vsub b.2 b.1=vb at*
 repeat' ((conv=>whnf);first|(exfalso;contradiction)|(exfalso;omega)|refine cC0 [(3,3),(4,4),(2,999),(72,3),(74,3),(76,3),(79,4),(81,4),(10,10)] Ae Ad ?_|refine zc h1 ?_|refine zc h4 ?_|refine zc h5 ?_|refine zc h6 ?_|refine zc h7 ?_|refine zc h8 ?_|refine zc h9 ?_|refine zS ?_|refine zd (fun hd=>?_) (fun hd=>?_)|refine zl (fun hlt=>?_) (fun hlt=>?_)|refine zk (fun hle=>?_) (fun hle=>?_))
 all_goals conv=>whnf
 refine aU (A:=List Sh) (B:=List Sh) (fun D R=>fG1 s b id r1 (kJ b D) D.length) (fun D R=>s.defects=D++R) (fun D R=>R.length) [] s.defects ?_ rfl (fun D R hp=>?_)
 ·show Le T _ (fG1 s b id r1 [] 0)
  exact zj
 have hXl:=yK b D;have hdl:=hs.2.1
 cases R with
 |nil=>
  have e:s.defects=D:=Ac;have hlen:s.defects.length=D.length:=J5
  rw[e];generalize kJ b D=X at*
  cases X with
  |nil=>exact NM
  |cons x X=>exact NM
 |cons d R=>
  have hlen:=aO hp;have hdm:d∈s.defects:=Ac
  have k1:=fX2 d (hs.2.2 d hdm);have hsn:=bX0 b D d
  have hlD:((D++[d]).length:Int)=(D.length:Int)+1:=Af;have hcd:aK2 b d=(open Classical in if xH (nV (boxS d).1 b)then [jT (nV (boxS d).1 b) b.1]else []):=rfl
  have hq:=hq0 d;have hcb:nV (boxS d).1 b=((max (boxS d).1.1.1 b.1.1,max (boxS d).1.1.2 b.1.2),(min (boxS d).1.2.1 b.2.1,min (boxS d).1.2.2 b.2.2)):=rfl
  generalize kJ b D=X at*;generalize nV (boxS d).1 b=cb at*;generalize (boxS d).1=bd at*;simp only[<-mG,<-lH]at hcb;subst hcb;generalize hm1:maxI bd.1.1 b.1.1=m1 at*;generalize hm2:maxI bd.1.2 b.1.2=m2 at*;generalize hm3:minI bd.2.1 b.2.1=m3 at*;generalize hm4:minI bd.2.2 b.2.2=m4 at*;have k2:=fD (m1,m2) b.1;have k3:=fD (m3,m4) b.1
  have k4:=fH3 (vsub (m1,m2) b.1) (vsub (m3,m4) b.1);by_cases hwc:m1<m3/\m2<m4
  ·have hwd:xH ((m1,m2),(m3,m4)):=hwc
   rw[if_pos hwd]at hcd;rw[hcd]at hsn;rw[hq hwd]at k4;generalize jT ((m1,m2),(m3,m4)) b.1=rr at*;generalize vsub (m1,m2) b.1=u1 at*;generalize vsub (m3,m4) b.1=u2 at*
   cases X with
   |nil=>
    repeat' ((conv=>whnf);first|(exfalso;omega)|refine cC0 [(4,4),(10,10),(14,14),(15,15),(147,4),(151,4),(144,10),(157,10)] Ae Ad ?_|refine aB (l:=s.defects) Aa ?_|refine aF (l:=s.defects) (A:=D) (x:=d) (B:=R) hp Aa ?_|rw[hm1]|rw[hm2]|rw[hm3]|rw[hm4]|refine zc k1 ?_|refine zc k2 ?_|refine zc k3 ?_|refine zc k4 ?_|refine gX (of_decide_eq_true rfl) (dA rfl) (of_decide_eq_true rfl) ?_|refine zS ?_|refine zl (fun hlt=>?_) (fun hlt=>?_))
    all_goals conv=>whnf
    refine⟨(D++[d],R),?_,Ac,Af⟩;show Le T _ (fG1 s b id r1 (kJ b (D++[d])) (D++[d]).length);rw[hsn,hlD];show Le T _ (fG1 s b id r1 [rr] _);exact zj
   |cons x X=>
    have hx1:(x::X).length=X.length+1:=rfl
    repeat' ((conv=>whnf);first|(exfalso;omega)|refine cC0 [(4,4),(10,10),(14,14),(15,15),(147,4),(151,4),(144,10),(157,10)] Ae Ad ?_|refine aB (l:=s.defects) Aa ?_|refine aF (l:=s.defects) (A:=D) (x:=d) (B:=R) hp Aa ?_|rw[hm1]|rw[hm2]|rw[hm3]|rw[hm4]|refine zc k1 ?_|refine zc k2 ?_|refine zc k3 ?_|refine zc k4 ?_|refine iH rfl (.inl rfl) rfl (of_decide_eq_true rfl) (dA rfl) (show((x::X).map shV).length+1<=1000000000 from Ea) ?_|refine zS ?_|refine zl (fun hlt=>?_) (fun hlt=>?_))
    all_goals conv=>whnf
    refine⟨(D++[d],R),?_,Ac,Af⟩;show Le T _ (fG1 s b id r1 (kJ b (D++[d])) (D++[d]).length);rw[hsn,hlD];show Le T _ (fG1 s b id r1 (x::(X++[rr])) _);unfold fG1;exact PK
  ·have hwd:¬xH ((m1,m2),(m3,m4)):=hwc
   rw[if_neg hwd]at hcd;rw[hcd,List.append_nil]at hsn
   cases X with
   |nil=>
    repeat' ((conv=>whnf);first|(exfalso;omega)|refine aB (l:=s.defects) Aa ?_|refine aF (l:=s.defects) (A:=D) (x:=d) (B:=R) hp Aa ?_|rw[hm1]|rw[hm2]|rw[hm3]|rw[hm4]|refine zc k1 ?_|refine zS ?_|refine zl (fun hlt=>?_) (fun hlt=>?_))
    all_goals conv=>whnf
    all_goals (refine⟨(D++[d],R),?_,Ac,Af⟩)
    all_goals (show Le T _ (fG1 s b id r1 (kJ b (D++[d])) (D++[d]).length))
    all_goals (rw[hsn,hlD])
    all_goals (show Le T _ (fG1 s b id r1 [] _))
    all_goals
     exact zj
   |cons x X=>
    have hx1:(x::X).length=X.length+1:=rfl
    repeat' ((conv=>whnf);first|(exfalso;omega)|refine aB (l:=s.defects) Aa ?_|refine aF (l:=s.defects) (A:=D) (x:=d) (B:=R) hp Aa ?_|rw[hm1]|rw[hm2]|rw[hm3]|rw[hm4]|refine zc k1 ?_|refine zS ?_|refine zl (fun hlt=>?_) (fun hlt=>?_))
    all_goals conv=>whnf
    all_goals (refine⟨(D++[d],R),?_,Ac,Af⟩)
    all_goals (show Le T _ (fG1 s b id r1 (kJ b (D++[d])) (D++[d]).length))
    all_goals (rw[hsn,hlD])
    all_goals (show Le T _ (fG1 s b id r1 (x::X) _))
    all_goals
     exact zj
theorem eK4{a b:List Vc}(ha:Len6 a):fnVC T Tryz.prog Tryz.f227 [.sl (a.map vcV), .sl (b.map vcV)] (DB (a=b)):=by
 have hma:(a.map vcV).length=a.length:=Af;have hmb:(b.map vcV).length=b.length:=Af
 generalize hP:(a=b)=P;have hr:P↔a=b:=Ib;clear hP
 repeat' ((conv=>whnf);first|refine zS ?_|refine zT ?_ ?_<;>intro _|fail)
 all_goals conv=>whnf
 all_goals first
  |exact aA (aC (fun h=>BL))
  |skip
 refine oU (A:=List Vc) (B:=List Vc) (C:=List Vc) (fun D R S=>mkSt [(0, .sl (a.map vcV)),(1, .sl (b.map vcV)),(5,I D.length)] [] []) (fun D R S=>a=D++R/\b=D++S) (fun D R S=>R.length) [] a b ?_ ⟨rfl,rfl⟩ (fun D R S hp=>?_)
 ·exact zj
 obtain⟨hp,hq⟩:=hp
 cases R with
 |nil=>exact JB
 |cons x R=>
  cases S with
  |nil=>exact LW
  |cons y S=>
   have hlen:=aO hp;have hlen2:=aO hq
   have hne:x≠y->¬P:=fun h hP=>JV;have hxa:x∈a:=Ac
   have hyb:y∈b:=Am
   skip
   repeat' ((conv=>whnf);first|(exfalso;omega)|refine aT1 ?_|refine aB4 (fun heq=>?_) (fun heq=>?_)|refine zS ?_|refine zT ?_ ?_<;>intro _|fail)
   all_goals conv=>whnf
   all_goals first
    |exact aA (aC (hne Bg))
    |skip
   exact Qk
theorem bK2{a b:List Vc}(ha:Len6 a):Sp 227 [.sl (a.map vcV), .sl (b.map vcV)] (DB (a=b)):=zsp Tryz.func227 (eK4 ha)
theorem dK7{a b:List Iv}(ha:Len6 a):fnVC T Tryz.prog Tryz.f165 [.sl (a.map ivV), .sl (b.map ivV)] (DB (a=b)):=by
 have hma:(a.map ivV).length=a.length:=Af;have hmb:(b.map ivV).length=b.length:=Af
 generalize hP:(a=b)=P;have hr:P↔a=b:=Ib;clear hP
 repeat' ((conv=>whnf);first|refine zS ?_|refine zT ?_ ?_<;>intro _|fail)
 all_goals conv=>whnf
 all_goals first
  |exact aA (aC (fun h=>BL))
  |skip
 refine oU (A:=List Iv) (B:=List Iv) (C:=List Iv) (fun D R S=>mkSt [(0, .sl (a.map ivV)),(1, .sl (b.map ivV)),(5,I D.length)] [] []) (fun D R S=>a=D++R/\b=D++S) (fun D R S=>R.length) [] a b ?_ ⟨rfl,rfl⟩ (fun D R S hp=>?_)
 ·exact zj
 obtain⟨hp,hq⟩:=hp
 cases R with
 |nil=>exact JB
 |cons x R=>
  cases S with
  |nil=>exact LW
  |cons y S=>
   have hlen:=aO hp;have hlen2:=aO hq
   have hne:x≠y->¬P:=fun h hP=>JV;have hxa:x∈a:=Ac
   have hyb:y∈b:=Am
   skip
   repeat' ((conv=>whnf);first|(exfalso;omega)|refine aB4 (fun heq=>?_) (fun heq=>?_)|refine zS ?_|refine zT ?_ ?_<;>intro _|fail)
   all_goals conv=>whnf
   all_goals first
    |exact aA (aC (hne Bg))
    |skip
   exact Qk
theorem cE7{a b:List Iv}(ha:Len6 a):Sp 165 [.sl (a.map ivV), .sl (b.map ivV)] (DB (a=b)):=zsp Tryz.func165 (dK7 ha)
theorem dO2{a b:List Rg}(ha:Len6 a)(hg:∀x∈a,Len6 x):fnVC T Tryz.prog Tryz.f228 [.sl (a.map rgV), .sl (b.map rgV)] (DB (a=b)):=by
 have hma:(a.map rgV).length=a.length:=Af;have hmb:(b.map rgV).length=b.length:=Af
 generalize hP:(a=b)=P;have hr:P↔a=b:=Ib;clear hP
 repeat' ((conv=>whnf);first|refine zS ?_|refine zT ?_ ?_<;>intro _|fail)
 all_goals conv=>whnf
 all_goals first
  |exact aA (aC (fun h=>BL))
  |skip
 refine oU (A:=List Rg) (B:=List Rg) (C:=List Rg) (fun D R S=>mkSt [(0, .sl (a.map rgV)),(1, .sl (b.map rgV)),(5,I D.length)] [] []) (fun D R S=>a=D++R/\b=D++S) (fun D R S=>R.length) [] a b ?_ ⟨rfl,rfl⟩ (fun D R S hp=>?_)
 ·exact zj
 obtain⟨hp,hq⟩:=hp
 cases R with
 |nil=>exact JB
 |cons x R=>
  cases S with
  |nil=>exact LW
  |cons y S=>
   have hlen:=aO hp;have hlen2:=aO hq
   have hne:x≠y->¬P:=fun h hP=>JV;have hxa:x∈a:=Ac
   have hyb:y∈b:=Am;have hgx:=hg x hxa
   repeat' ((conv=>whnf);first|(exfalso;omega)|refine zc (bK2 (b:=y) hgx) ?_|refine zS ?_|refine zT ?_ ?_<;>intro _|fail)
   all_goals conv=>whnf
   all_goals first
    |exact aA (aC (hne Bg))
    |skip
   exact Qk
theorem cI7{a b:List Rg}(ha:Len6 a)(hg:∀x∈a,Len6 x):Sp 228 [.sl (a.map rgV), .sl (b.map rgV)] (DB (a=b)):=zsp Tryz.func228 (dO2 ha hg)
theorem fC2{a b:Sh}:a=b↔a.outer=b.outer/\a.holes=b.holes:=by
 constructor
 ·rintro rfl;exact⟨rfl,rfl⟩
 ·obtain⟨o,h⟩:=a;obtain⟨o',h'⟩:=b;rintro⟨h1,h2⟩;simp only at h1 h2;rw[h1,h2]
theorem aW1(a b:Sh)(ha:aV5 a):Sp 163 [shV a,shV b] (DB (a=b)):=by
 refine zsp Tryz.func163 ?_;obtain⟨h1,h2,h3⟩:=ha;have g1:=bK2 (b:=b.outer) h1;have g2:=cI7 (b:=b.holes) h2 h3
 have hr:a=b↔a.outer=b.outer/\a.holes=b.holes:=fC2;generalize (a=b)=P at*;generalize (a.outer=b.outer)=p1 at*;generalize (a.holes=b.holes)=p2 at*
 repeat' ((conv=>whnf);first|refine zS ?_|refine zT ?_ ?_<;>intro _|fail)
 all_goals conv=>whnf
 all_goals first
  |exact aA (fQ BV)
  |exact aA (aC BV)
theorem dB4{a b:List Sh}(ha:Len6 a)(hg:∀x∈a,aV5 x):fnVC T Tryz.prog Tryz.f164 [.sl (a.map shV), .sl (b.map shV)] (DB (a=b)):=by
 have hma:(a.map shV).length=a.length:=Af;have hmb:(b.map shV).length=b.length:=Af
 generalize hP:(a=b)=P;have hr:P↔a=b:=Ib;clear hP
 repeat' ((conv=>whnf);first|refine zS ?_|refine zT ?_ ?_<;>intro _|fail)
 all_goals conv=>whnf
 all_goals first
  |exact aA (aC (fun h=>BL))
  |skip
 refine oU (A:=List Sh) (B:=List Sh) (C:=List Sh) (fun D R S=>mkSt [(0, .sl (a.map shV)),(1, .sl (b.map shV)),(5,I D.length)] [] []) (fun D R S=>a=D++R/\b=D++S) (fun D R S=>R.length) [] a b ?_ ⟨rfl,rfl⟩ (fun D R S hp=>?_)
 ·exact zj
 obtain⟨hp,hq⟩:=hp
 cases R with
 |nil=>exact JB
 |cons x R=>
  cases S with
  |nil=>exact LW
  |cons y S=>
   have hlen:=aO hp;have hlen2:=aO hq
   have hne:x≠y->¬P:=fun h hP=>JV;have hxa:x∈a:=Ac
   have hyb:y∈b:=Am;have hgx:=hg x hxa
   repeat' ((conv=>whnf);first|(exfalso;omega)|refine zc (aW1 x y hgx) ?_|refine zS ?_|refine zT ?_ ?_<;>intro _|fail)
   all_goals conv=>whnf
   all_goals first
    |exact aA (aC (hne Bg))
    |skip
   exact Qk
theorem cB6{a b:List Sh}(ha:Len6 a)(hg:∀x∈a,aV5 x):Sp 164 [.sl (a.map shV), .sl (b.map shV)] (DB (a=b)):=zsp Tryz.func164 (dB4 ha hg)
theorem dN5{a b:jL}:a=b↔a.id=b.id/\a.grade=b.grade/\a.heat=b.heat/\a.grain=b.grain/\a.shape=b.shape/\a.defects=b.defects:=by
 constructor
 ·rintro rfl;exact⟨rfl,rfl,rfl,rfl,rfl,rfl⟩
 ·obtain⟨⟩:=a;obtain⟨⟩:=b;rintro⟨h1,h2,h3,h4,h5,h6⟩;simp only at h1 h2 h3 h4 h5 h6;rw[h1,h2,h3,h4,h5,h6]
theorem cQ1(a b:jL)(ha:aA4 a):Sp 97 [zJ a,zJ b] (DB (a=b)):=by
 refine zsp Tryz.func97 ?_;obtain⟨h1,h2,h3⟩:=ha;have g1:=aW1 a.shape b.shape h1;have g2:=cB6 (b:=b.defects) h2 h3
 have hr:a=b↔a.id=b.id/\a.grade=b.grade/\a.heat=b.heat/\a.grain=b.grain/\a.shape=b.shape/\a.defects=b.defects:=dN5;generalize (a=b)=P at*;generalize (a.shape=b.shape)=p1 at*;exact QC
theorem eO5{a b:Bar}:a=b↔a.id=b.id/\a.grade=b.grade/\a.heat=b.heat/\a.length=b.length/\a.defects=b.defects:=by
 constructor
 ·rintro rfl;exact⟨rfl,rfl,rfl,rfl,rfl⟩
 ·obtain⟨⟩:=a;obtain⟨⟩:=b;rintro⟨h1,h2,h3,h4,h5⟩;simp only at h1 h2 h3 h4 h5;rw[h1,h2,h3,h4,h5]
theorem dK6(a b:Bar)(ha:Len6 a.defects):Sp 98 [barV a,barV b] (DB (a=b)):=by
 refine zsp Tryz.func98 ?_;have g2:=cE7 (b:=b.defects) ha;have hr:a=b↔a.id=b.id/\a.grade=b.grade/\a.heat=b.heat/\a.length=b.length/\a.defects=b.defects:=eO5
 generalize (a=b)=P at*;exact QC
theorem eK5{a b:Bool}{A B:Prop}(h1:a=b->A)(h2:a≠b->B):branch (eqBB a b) A B:=by
 rw[cA1];exact jU (fun h=>h1 Dq) (fun h=>h2 Dq)
theorem dJ6{a b:aN}:a=b↔a.isBar=b.isBar/\a.program=b.program/\a.sheet=b.sheet/\a.bar=b.bar:=by
 constructor
 ·rintro rfl;exact⟨rfl,rfl,rfl,rfl⟩
 ·obtain⟨⟩:=a;obtain⟨⟩:=b;rintro⟨h1,h2,h3,h4⟩;simp only at h1 h2 h3 h4;rw[h1,h2,h3,h4]
def bK9(x:aN):Prop:=aA4 x.sheet/\Len6 x.bar.defects
theorem cK0(a b:aN)(ha:bK9 a):Sp 36 [aQ a,aQ b] (DB (a=b)):=by
 refine zsp Tryz.func36 ?_;obtain⟨h1,h2⟩:=ha;have g1:=cQ1 a.sheet b.sheet h1;have g2:=dK6 a.bar b.bar h2
 have hr:a=b↔a.isBar=b.isBar/\a.program=b.program/\a.sheet=b.sheet/\a.bar=b.bar:=dJ6;generalize (a=b)=P at*;generalize (a.sheet=b.sheet)=p1 at*;generalize (a.bar=b.bar)=p2 at*
 repeat' ((conv=>whnf);first|refine jI (fun heq=>?_) (fun heq=>?_)|refine eK5 (fun heq=>?_) (fun heq=>?_)|refine zS ?_|refine zT ?_ ?_<;>intro _|fail)
 all_goals conv=>whnf
 all_goals first
  |exact aA (fQ BV)
  |exact aA (aC BV)
theorem fK6(r:Rg)(hl:r.length<=9223372036854775807):Sp 201 [rgV r] (DB (dM r)):=by
 by_cases h:r.length<=1000000
 ·exact fE9 r h
 ·have e:DB (dM r)= .lit (.bool false):=dbF (fun q=>by have:=q.2.1;omega)
  rw[e];refine zsp Tryz.func201 ?_;have hll:(r.map vcV).length=r.length:=Af;exact Qd
theorem fQ3(s:Sh)(hs:Fits s):Sp 144 [shV s] (DB (bG s)):=by
 refine zsp Tryz.func144 ?_;have hr:=fM1 (s:=s);have hml:(s.holes.map rgV).length=s.holes.length:=Af
 have g1:=fK6 s.outer hs.1;have hhl:=hs.2.1
 have hcr:corners (rings s)=s.outer.length+corners s.holes:=fH9 _ _;rw[hcr]at hr;clear hcr;generalize bG s=P at*;by_cases ho:dM s.outer;rotate_left
 ·exact LZ
 rw[dbT ho]at g1
 repeat' ((conv=>whnf);first|refine zc g1 ?_|refine zS ?_|refine zT ?_ ?_<;>intro _|fail)
 all_goals conv=>whnf
 all_goals first
  |exact aA (aC (fun h=>I5))
  |skip
 have ho40:=ho.2.1;have hol:s.outer.length<=1000000:=Aa
 have h6:s.holes.length<=6:=Aa;refine aU (A:=List Rg) (B:=List Rg) (fun D R=>mkSt [(1, .box 1 0),(3,I ((s.outer.length+corners D:Nat):Int)),(4,I D.length)] [(1,(shV s).cells)] []) (fun D R=>s.holes=D++R/\(∀k∈D,dM k)/\(P↔fF4 s.outer D R/\s.outer.length+corners s.holes<=80)) (fun D R=>R.length) [] s.holes ?_ ⟨rfl,Af,⟨fun h=>(hr.1 h).2.2,fun h=>hr.2 ⟨h6,ho,h⟩⟩⟩ (fun D R hp=>?_)
 ·exact LU
 clear hr;obtain⟨hp,hD,hr⟩:=hp;have hcD:=fN4 hD
 cases R with
 |nil=>exact La
 |cons h R=>
  have hlen:=aO hp;have hhm:h∈s.holes:=Ac
  have hh9:=hs.2.2 h hhm;have hhm2:(h.map vcV).length=h.length:=Af
  have hcs:corners (D++[h])=corners D+h.length:=by rw[fO1];unfold corners;simp
  have gv:=fK6 h hh9;have hr':P↔(fK3 s.outer D h/\fF4 s.outer (D++[h]) R)/\s.outer.length+corners s.holes<=80:=hr
  by_cases hok:dM h;rotate_left
  ·exact KQ
  rw[dbT hok]at gv;have h40:=hok.2.1;have hh1:h.length<=1000000:=Aa
  exact PG
theorem fJ2(s:Sh)(hs:Fits s):Sp 155 [shV s] (DB (jV s)):=by
 by_cases h:bG s
 ·exact fE6 s (iT h)
 ·rw[dbF (fun q:jV s=>h q.1)]
  have h1:=fQ3 s hs;rw[dbF h]at h1;refine zsp Tryz.func155 ?_;exact SQ
theorem fP7(s:jL)(hs:tN s):Sp 80 [zJ s] (DB (dB s)):=by
 refine zsp Tryz.func80 ?_;obtain⟨hs1,hs2,hs3⟩:=hs;have h2:=fK9 s.id s.grade s.heat;have h3:=fJ2 s.shape hs1
 by_cases hcs:jV s.shape;rotate_left
 ·rw[dbF (fun q:dB s=>hcs q.2.2.2.1)]
  rw[dbF hcs]at h3
  repeat' ((conv=>whnf);first|refine zc h2 ?_|refine zc h3 ?_|refine zS ?_|refine zT ?_ ?_<;>intro _|fail)
  all_goals exact zE
 have hz1:=iT hcs.1;have hsh:=hcs.1
 rw[dbT hcs]at h3
 have hr:dB s↔kZ s.id s.grade s.heat/\0<=s.grain/\s.grain<=2/\jV s.shape/\s.defects.length<=6/\(dQ (boxS s.shape).1.1/\dQ (boxS s.shape).1.2)/\∀d∈s.defects,qQ s.shape d:=
  ⟨fun⟨a,b,c,d,e,f,g,h⟩=>⟨a,b,c,d,e,⟨f,g⟩,h⟩,fun⟨a,b,c,d,e,⟨f,g⟩,h⟩=>⟨a,b,c,d,e,f,g,h⟩⟩
 have hb:((dQ (boxS s.shape).1.1/\dQ (boxS s.shape).1.2)↔∀v∈s.shape.outer,dQ v):=fX1 hsh;have hl:(s.defects.map shV).length=s.defects.length:=Af
 have hl2:(s.shape.outer.map vcV).length=s.shape.outer.length:=Af;have ho:=hz1.1
 have hdf:∀d,qQ s.shape d↔jV d/\pO s.shape d=0/\lI s.shape d:=fun d=>Iff.rfl;generalize dB s=P at*;generalize kZ s.id s.grade s.heat=p1 at*;generalize (dQ (boxS s.shape).1.1/\dQ (boxS s.shape).1.2)=p3 at*
 repeat' ((conv=>whnf);first|refine zc h2 ?_|refine zc h3 ?_|refine zS ?_|refine zT ?_ ?_<;>intro _|fail)
 all_goals conv=>whnf
 all_goals first
  |exact aA (aC (fun h=>absurd (hr.1 h).1 Ag))
  |exact aA (aC (fun h=>AZ))
  |skip
 have hP:P↔(∀v∈s.shape.outer,dQ v)/\∀d∈s.defects,qQ s.shape d:=⟨fun h=>⟨hb.1 (hr.1 h).2.2.2.2.2.1,(hr.1 h).2.2.2.2.2.2⟩,fun h=>hr.2 ⟨Ag,Aa,Aa,Ag,Aa,hb.2 h.1,h.2⟩⟩;clear hr hb;refine aU (A:=List Vc) (B:=List Vc) (fun D R=>mkSt [(1, .box 1 0),(3,I D.length)] [(1,aA7 s)] []) (fun D R=>s.shape.outer=D++R/\∀v∈D,dQ v) (fun D R=>R.length) [] s.shape.outer ?_ ⟨rfl,Af⟩ (fun D R hp=>?_)
 ·exact zj
 obtain⟨hp,hD⟩:=hp
 cases R with
 |cons v R=>
  have hlen:=aO hp;have hvm:v∈s.shape.outer:=Ac
  have g1:=fF5 v;have hgood:dQ v->∀z∈D++[v],dQ z:=fun h z hz=>JO
  have hbad:¬dQ v->¬P:=fun h q=>h ((hP.1 q).1 v hvm);generalize dQ v=ov at*
  repeat' ((conv=>whnf);first|(exfalso;omega)|refine aB (l:=s.shape.outer) Aa ?_|refine aF (l:=s.shape.outer) (A:=D) (x:=v) (B:=R) hp Aa ?_|refine zc g1 ?_|refine zS ?_|refine zT ?_ ?_<;>intro _|fail)
  all_goals conv=>whnf
  all_goals first
   |exact aA (aC (hbad Ag))
   |skip
  refine⟨(D++[v],R),?_,⟨Ac,hgood Ag⟩,Af⟩;exact P6
 |nil=>
 have hlen:s.shape.outer.length=D.length:=Ac;have hP2:P↔∀d∈s.defects,qQ s.shape d:=⟨fun h=>(hP.1 h).2,fun h=>hP.2 ⟨fun v hv=>Ee,h⟩⟩
 clear hP
 repeat' ((conv=>whnf);first|(exfalso;omega)|refine zS ?_|refine zT ?_ ?_<;>intro _|fail)
 refine aU (A:=List Sh) (B:=List Sh) (fun D R=>mkSt [(1, .box 1 0),(4,I D.length)] [(1,aA7 s)] []) (fun D R=>s.defects=D++R/\∀d∈D,qQ s.shape d) (fun D R=>R.length) [] s.defects ?_ ⟨rfl,Af⟩ (fun D R hp=>?_)
 ·exact zj
 obtain⟨hp,hD⟩:=hp
 cases R with
 |nil=>exact Lu
 |cons d R=>
  have hlen:=aO hp;have hdm:d∈s.defects:=Ac
  have g2:=fJ2 d (hs3 d hdm);have hq:=hdf d
  by_cases hcd:jV d;rotate_left
  ·rw[dbF hcd]at g2
   repeat' ((conv=>whnf);first|(exfalso;omega)|refine aB (l:=s.defects) Aa ?_|refine aF (l:=s.defects) (A:=D) (x:=d) (B:=R) hp Aa ?_|refine zc g2 ?_|refine zS ?_|refine zT ?_ ?_<;>intro _|fail)
   all_goals conv=>whnf
   exact aA (aC (fun h=>hcd (hq.1 (hP2.1 h d hdm)).1))
  rw[dbT hcd]at g2;have g1:=fG0 s.shape d hz1 (iT hcd.1);have hE:jV d->lI s.shape d->pO s.shape d=0:=fun _ h=>if_pos ⟨h.1,h.2.1⟩
  generalize pO s.shape d=q2 at*;generalize lI s.shape d=q3 at*
  repeat' ((conv=>whnf);first|(exfalso;omega)|refine aB (l:=s.defects) Aa ?_|refine aF (l:=s.defects) (A:=D) (x:=d) (B:=R) hp Aa ?_|refine zc g1 ?_|refine zc g2 ?_|refine zS ?_|refine zT ?_ ?_<;>intro _|fail)
  all_goals conv=>whnf
  all_goals first
   |exact aA (aC (fun h=>absurd (hq.1 (hP2.1 h d hdm)).2.2 Ag))
   |skip
  refine⟨(D++[d],R),?_,⟨Ac,fun z hz=>?_⟩,Af⟩
  ·exact J8
  ·rcases List.mem_append.1 hz with hz|hz
   ·exact hD z hz
   ·rw[List.mem_singleton.1 hz]
    exact hq.2 ⟨hcd,hE hcd Ag,Ag⟩
end Go.Proofs.Led
