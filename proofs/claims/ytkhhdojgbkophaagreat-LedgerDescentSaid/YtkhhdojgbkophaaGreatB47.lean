/-
  Pieces and rests descend from the stock from which they were cut, and stocks are valid.
-/
import Derived.Test.YtkhhdojgbkophaaGreatB41
import Derived.Test.YtkhhdojgbkophaaGreatB45
import Derived.Test.YtkhhdojgbkophaaGreatB46
import Derived.Test.YtkhhdojgbkophaaGreatB42
set_option linter.unusedVariables false
set_option linter.unusedSimpArgs false
namespace Go.Proofs.Led
open Go Go.Proofs Go.Ab
set_option maxRecDepth 100000
set_option maxHeartbeats 8000000
theorem eqPl(i1 i2 i6 i8 j1 j2 j6 j8:Int)(s3 s4 s5 s9 t3 t4 t5 t9:ByteArray)(b c:Bool):eqT T 4 90 [I i1,I i2,S s3,S s4,S s5,I i6,B b,I i8,S s9] [I j1,I j2,S t3,S t4,S t5,I j6,B c,I j8,S t9] =
 some (andB (eqB i1 j1) (andB (eqB i2 j2) (andB (eqSB s3 t3) (andB (eqSB s4 t4) (andB (eqSB s5 t5) (andB (eqB i6 j6) (andB (eqBB b c) (andB (eqB i8 j8) (andB (eqSB s9 t9) true))))))))):=by kernel_rfl
theorem aT0{i1 i2 i6 i8 j1 j2 j6 j8:Int}{s3 s4 s5 s9 t3 t4 t5 t9:ByteArray}{b c:Bool}{K:Bool->Prop}
 (h:K (andB (eqB i1 j1) (andB (eqB i2 j2) (andB (eqSB s3 t3) (andB (eqSB s4 t4) (andB (eqSB s5 t5) (andB (eqB i6 j6) (andB (eqBB b c) (andB (eqB i8 j8) (andB (eqSB s9 t9) true)))))))))):
 aL1.match_1 (fun _=>Prop) (eqT T 4 90 [I i1,I i2,S s3,S s4,S s5,I i6,B b,I i8,S s9] [I j1,I j2,S t3,S t4,S t5,I j6,B c,I j8,S t9]) K (fun _=>False):=by
 rw[eqPl];exact h
theorem aG0(i1 i2 i6 i8:Int)(s3 s4 s5 s9:ByteArray)(b:Bool):andB (eqB i1 i1) (andB (eqB i2 i2) (andB (eqSB s3 s3) (andB (eqSB s4 s4) (andB (eqSB s5 s5) (andB (eqB i6 i6) (andB (eqBB b b) (andB (eqB i8 i8) (andB (eqSB s9 s9) true))))))))=true:=by
 simp only[dE9,aA1,eK9,cA1,beq_iff_eq,and_true]
theorem zC{s:aJ}{n:Nat}(h:Ok s n)(hn:n<=1000000){x:Piece}(hx:x∈s.pieces):Sp 30 [invV s,I x.id] (.tup [aZ x, .lit (.bool true)]):=by
 have g:=bG3 s x.id (Nat.le_trans h.lp hn)
 rw[DB_t ⟨x,hx,rfl⟩,show bF0 s x.id=x by unfold bF0;rw[dK2 h hx];rfl]at g
 exact g
theorem bH4{s:aJ}{n:Nat}(h:Ok s n)(hn:n<=1000000){x:aN}(hx:x∈s.stocks):Sp 31 [invV s,I (sid x)] (.tup [aQ x, .lit (.bool true)]):=by
 have g:=bH9 s (sid x) (Nat.le_trans h.ls hn)
 rw[DB_t ⟨x,hx,rfl⟩,show bF5 s (sid x)=x by unfold bF5;rw[eF7 h hx];rfl]at g
 exact g
theorem cU4{e:Event}{m:aN}{c:Made}(h:stOk m):fZ e m c=⟨c.id,e.id,c.part,m.sheet.grade++m.bar.grade,m.sheet.heat++m.bar.heat,c.size,m.isBar,1,aI⟩:=by
 obtain⟨h1,h2⟩:=eH5 (e:=e) (c:=c) h
 rw[<-h1,<-h2]
 rfl
theorem cV7{m:aN}(h:stOk m):m.sheet.grade.size<=16/\m.sheet.heat.size<=16/\m.bar.grade.size<=16/\m.bar.heat.size<=16:=by
 have z:aI.size=0:=rfl
 cases hb:m.isBar with
 |true=>
  obtain⟨⟨⟨_,_,n1,n2⟩,_⟩,hs⟩:=h.1 hb
  rw[hs]
  exact⟨by show aI.size<=16;omega,by show aI.size<=16;omega,n1.2.1,n2.2.1⟩
 |false=>
  obtain⟨⟨⟨_,_,n1,n2⟩,_⟩,hs⟩:=h.2 hb
  rw[hs]
  exact⟨n1.2.1,n2.2.1,by show aI.size<=16;omega,by show aI.size<=16;omega⟩
theorem aY5(l:List Event)(hl:Len6 l)(hb:∀e∈l,bI1 e):Sp 8 [.sl (l.map aS)] (.lit (.bool true)):=by
 refine zsp Tryz.func8 ?_
 have hm:(l.map aS).length=l.length:=by simp
 have g0:=zB
 have g1:=aS2 l 16 hl hb
 by_cases hf:fewL l 16
 rotate_left
 ·repeat' ((conv=>whnf);first|(exfalso;contradiction)|refine zc g0 ?_|refine zc g1 ?_|refine zg ?_|refine zn ?_|refine zd (fun hd=>?_) (fun hd=>?_)|refine zr ?_)
  all_goals conv=>whnf
  all_goals first|exact aG rfl|exact aK rfl|exact aP rfl|exact zt|exact zu
 obtain⟨hf1,hf2⟩:=hf
 have hfs:∀e∈l,iY e/\e.cuts.length<=12/\e.rests.length<=8/\more e<=21:=fun e he=>aQ4 (hb e he) (hf1 e he)
 have hml:=bH2 (fun e he=>(hfs e he).2.2.2)
 have hf':fewL l 16:=⟨hf1,hf2⟩
 repeat' ((conv=>whnf);first|(exfalso;contradiction)|refine zc g0 ?_|refine zc g1 ?_|refine zg ?_|refine zn ?_|refine zd (fun hd=>?_) (fun hd=>?_))
 all_goals conv=>whnf
 refine oU (A:=aJ) (B:=List Event) (C:=List Event) (fun s D R=>mkSt [(0, .sl (l.map aS)),(3, .box 3 0),(4,I D.length)] [(3,invC s)] []) (fun s D R=>l=D++R/\∃n,Good s n/\Vs s/\n+moreL R<=1000) (fun s D R=>R.length) inv0 [] l ?_ ⟨rfl,0,cN2,vs0,by omega⟩ (fun s D R hp=>?_)
 ·show Le T _ (mkSt [(0, .sl (l.map aS)),(3, .box 3 0),(4,I 0)] [(3,invC inv0)] [])
  exact zj
 obtain⟨hp,n,hn,hV,hnl⟩:=hp
 have hn6:n<=1000000:=by omega
 cases R with
 |nil=>
  have hlen:l.length=D.length:=by rw[hp];simp
  clear hp
  repeat' ((conv=>whnf);first|(exfalso;omega)|refine zg ?_|refine zl (fun hlt=>?_) (fun hlt=>?_)|refine zr ?_)
  all_goals conv=>whnf
  all_goals first|exact aG rfl|exact aK rfl|exact aP rfl|exact zt|exact zu
 |cons e R=>
  have hlen:=aO hp
  have em:moreL (e::R)=more e+moreL R:=by unfold moreL;simp
  obtain⟨z1,z2,z3,z4⟩:=hfs e (by rw[hp];simp)
  have k1:=bB8 e (by omega) (by omega)
  have k2:=(kG hn.ok (e:=e) (by omega) z1).1
  have k3:=good_step (e:=e) hn
  have hlD:((D++[e]).length:Int)=(D.length:Int)+1:=by simp
  have kk:∀s',Good s' (n+more e)->Vs s'->∃n',Good s' n'/\Vs s'/\n'+moreL R<=1000:=fun s' h h'=>⟨_,h,h',by omega⟩
  have kk0:∃n',Good s n'/\Vs s/\n'+moreL R<=1000:=⟨n,hn,hV,by omega⟩
  by_cases c:(appR s e).2=0
  rotate_left
  ·clear k3
   generalize appR s e=a at*
   repeat' ((conv=>whnf);first|(exfalso;omega)|refine aB (l:=l) (by omega) ?_|refine aF (l:=l) (A:=D) (x:=e) (B:=R) hp (by omega) ?_|refine zc k1 ?_|refine zc k2 ?_|refine zg ?_|refine za ?_|refine zn ?_|refine zl (fun hlt=>?_) (fun hlt=>?_)|refine ze (fun heq=>?_) (fun heq=>?_))
   all_goals conv=>whnf
   refine⟨(s,D++[e],R),?_,⟨by rw[hp];simp,kk0⟩,by simp⟩
   simp only[List.length_append,List.length_singleton]
   exact zj
  have hG:=k3 c
  have hst:=(aZ6 hn.ok c).2
  have hV':=eP3 hV hst
  have hK:=dS8 hst
  have hC:=dZ1 hst hV
  rw[c]at k2
  clear k3 c hst
  generalize (appR s e).1=t at*
  have hn6':n+more e<=1000000:=by omega
  have hts6:=Nat.le_trans hG.ok.ls hn6'
  have hsp6:=Nat.le_trans hn.ok.lp hn6
  have hsm':(t.stocks.map aQ).length=t.stocks.length:=by simp
  have hpm':(s.pieces.map aZ).length=s.pieces.length:=by simp
  have hcm:(e.cuts.map dK).length=e.cuts.length:=by simp
  have hrm:(e.rests.map bY).length=e.rests.length:=by simp
  by_cases hk:e.kind=5
  rotate_left
  ·have k4:=bH9 s e.id (Nat.le_trans hn.ok.ls hn6)
   generalize bF5 s e.id=fs at*
   generalize (∃m∈s.stocks,sid m=e.id)=fP at*
   by_cases hfp:fP
   ·rw[DB_t hfp]at k4
    repeat' ((conv=>whnf);first|(exfalso;omega)|refine aB (l:=l) (by omega) ?_|refine aF (l:=l) (A:=D) (x:=e) (B:=R) hp (by omega) ?_|refine zc k1 ?_|refine zc k2 ?_|refine zc k4 ?_|refine zg ?_|refine zn ?_|refine zl (fun hlt=>?_) (fun hlt=>?_)|refine ze (fun heq=>?_) (fun heq=>?_))
    refine aU (A:=List aN) (B:=List aN) (fun E S=>mkSt [(0, .sl (l.map aS)),(3, .box 3 0),(4,I D.length),(6, .box 6 0),(18,I E.length)] [(3,invC s),(6,invC t)] []) (fun E S=>t.stocks=E++S) (fun E S=>S.length) [] t.stocks ?_ rfl (fun E S hq=>?_)
    ·exact zj
    cases S with
    |cons y S=>
     have hlen3:=aO hq
     have hy:=hV' y (by rw[hq];simp)
     have hys:=hG.ok.sz y (by rw[hq];simp)
     obtain⟨yb,ysh,ybr,yp⟩:=y
     cases yb
     ·have k8:=nU ysh hys.1
      rw[DB_t (hy.2 rfl).1]at k8
      repeat' ((conv=>whnf);first|(exfalso;omega)|refine aB (l:=t.stocks) (by omega) ?_|refine aF (l:=t.stocks) (A:=E) (x:=⟨false,ysh,ybr,yp⟩) (B:=S) hq (by omega) ?_|refine zc k8 ?_|refine zg ?_|refine za ?_|refine zl (fun hlt=>?_) (fun hlt=>?_))
      all_goals conv=>whnf
      refine⟨(E++[⟨false,ysh,ybr,yp⟩],S),?_,by rw[hq];simp,by simp⟩
      simp only[List.length_append,List.length_singleton]
      exact zj
     ·have k8:=qP ybr hys.2
      rw[DB_t (hy.1 rfl).1]at k8
      repeat' ((conv=>whnf);first|(exfalso;omega)|refine aB (l:=t.stocks) (by omega) ?_|refine aF (l:=t.stocks) (A:=E) (x:=⟨true,ysh,ybr,yp⟩) (B:=S) hq (by omega) ?_|refine zc k8 ?_|refine zg ?_|refine za ?_|refine zl (fun hlt=>?_) (fun hlt=>?_))
      all_goals conv=>whnf
      refine⟨(E++[⟨true,ysh,ybr,yp⟩],S),?_,by rw[hq];simp,by simp⟩
      simp only[List.length_append,List.length_singleton]
      exact zj
    |nil=>
     have hlen3:t.stocks.length=E.length:=by rw[hq];simp
     clear hq
     repeat' ((conv=>whnf);first|(exfalso;omega)|refine zg ?_|refine zl (fun hlt=>?_) (fun hlt=>?_))
     refine aU (A:=List Piece) (B:=List Piece) (fun E S=>mkSt [(0, .sl (l.map aS)),(3, .box 3 0),(4,I D.length),(6, .box 6 0),(20,I E.length)] [(3,invC s),(6,invC t)] []) (fun E S=>s.pieces=E++S) (fun E S=>S.length) [] s.pieces ?_ rfl (fun E S hq=>?_)
     ·exact zj
     cases S with
     |cons q S=>
      have hlen4:=aO hq
      obtain⟨p,hpm,hpi,hpl⟩:=hK q (by rw[hq];simp)
      have k9:=zC hG.ok (show n+more e<=1000000 by omega) hpm
      rw[hpi]at k9
      by_cases hs1:q.status=1
      ·have hpe:p=⟨q.id,q.parent,q.part,q.grade,q.heat,q.size,q.isBar,p.status,p.order⟩:=by
        rcases hpl with h|⟨_,h⟩
        ·rw[h]
        ·exact h
       generalize p.status=pst at*
       generalize p.order=pod at*
       subst hpe
       repeat' ((conv=>whnf);first|(exfalso;omega)|refine aB (l:=s.pieces) (by omega) ?_|refine aF (l:=s.pieces) (A:=E) (x:=q) (B:=S) hq (by omega) ?_|refine cC0 [(21,21),(23,23),(237,21),(239,21),(241,23),(242,23)] (by repeat' (first|exact trivial|exact rfl|refine And.intro ?_ ?_)) (by kernel_rfl) ?_|refine aT0 ?_|refine xE (aG0 ..) ?_|refine zc k9 ?_|refine zg ?_|refine za ?_|refine zy ?_|refine zn ?_|refine zl (fun hlt=>?_) (fun hlt=>?_)|refine ze (fun heq=>?_) (fun heq=>?_))
       all_goals conv=>whnf
       refine⟨(E++[q],S),?_,by rw[hq];simp,by simp⟩
       simp only[List.length_append,List.length_singleton]
       exact zj
      ·have hpe:p=q:=by
        rcases hpl with h|⟨h,_⟩
        ·exact h
        ·exact absurd h hs1
       subst hpe
       repeat' ((conv=>whnf);first|(exfalso;omega)|refine aB (l:=s.pieces) (by omega) ?_|refine aF (l:=s.pieces) (A:=E) (x:=p) (B:=S) hq (by omega) ?_|refine cC0 [(21,21),(23,23),(237,21),(239,21),(241,23),(242,23)] (by repeat' (first|exact trivial|exact rfl|refine And.intro ?_ ?_)) (by kernel_rfl) ?_|refine aT0 ?_|refine xE (aG0 ..) ?_|refine zc k9 ?_|refine zg ?_|refine za ?_|refine zy ?_|refine zn ?_|refine zl (fun hlt=>?_) (fun hlt=>?_)|refine ze (fun heq=>?_) (fun heq=>?_))
       all_goals conv=>whnf
       refine⟨(E++[p],S),?_,by rw[hq];simp,by simp⟩
       simp only[List.length_append,List.length_singleton]
       exact zj
     |nil=>
      have hlen4:s.pieces.length=E.length:=by rw[hq];simp
      clear hq
      repeat' ((conv=>whnf);first|(exfalso;omega)|refine zg ?_|refine za ?_|refine zl (fun hlt=>?_) (fun hlt=>?_))
      all_goals conv=>whnf
      refine⟨(t,D++[e],R),?_,⟨by rw[hp];simp,kk _ hG hV'⟩,by simp⟩
      simp only[List.length_append,List.length_singleton]
      exact zj
   ·rw[DB_f hfp]at k4
    repeat' ((conv=>whnf);first|(exfalso;omega)|refine aB (l:=l) (by omega) ?_|refine aF (l:=l) (A:=D) (x:=e) (B:=R) hp (by omega) ?_|refine zc k1 ?_|refine zc k2 ?_|refine zc k4 ?_|refine zg ?_|refine zn ?_|refine zl (fun hlt=>?_) (fun hlt=>?_)|refine ze (fun heq=>?_) (fun heq=>?_))
    refine aU (A:=List aN) (B:=List aN) (fun E S=>mkSt [(0, .sl (l.map aS)),(3, .box 3 0),(4,I D.length),(6, .box 6 0),(18,I E.length)] [(3,invC s),(6,invC t)] []) (fun E S=>t.stocks=E++S) (fun E S=>S.length) [] t.stocks ?_ rfl (fun E S hq=>?_)
    ·exact zj
    cases S with
    |cons y S=>
     have hlen3:=aO hq
     have hy:=hV' y (by rw[hq];simp)
     have hys:=hG.ok.sz y (by rw[hq];simp)
     obtain⟨yb,ysh,ybr,yp⟩:=y
     cases yb
     ·have k8:=nU ysh hys.1
      rw[DB_t (hy.2 rfl).1]at k8
      repeat' ((conv=>whnf);first|(exfalso;omega)|refine aB (l:=t.stocks) (by omega) ?_|refine aF (l:=t.stocks) (A:=E) (x:=⟨false,ysh,ybr,yp⟩) (B:=S) hq (by omega) ?_|refine zc k8 ?_|refine zg ?_|refine za ?_|refine zl (fun hlt=>?_) (fun hlt=>?_))
      all_goals conv=>whnf
      refine⟨(E++[⟨false,ysh,ybr,yp⟩],S),?_,by rw[hq];simp,by simp⟩
      simp only[List.length_append,List.length_singleton]
      exact zj
     ·have k8:=qP ybr hys.2
      rw[DB_t (hy.1 rfl).1]at k8
      repeat' ((conv=>whnf);first|(exfalso;omega)|refine aB (l:=t.stocks) (by omega) ?_|refine aF (l:=t.stocks) (A:=E) (x:=⟨true,ysh,ybr,yp⟩) (B:=S) hq (by omega) ?_|refine zc k8 ?_|refine zg ?_|refine za ?_|refine zl (fun hlt=>?_) (fun hlt=>?_))
      all_goals conv=>whnf
      refine⟨(E++[⟨true,ysh,ybr,yp⟩],S),?_,by rw[hq];simp,by simp⟩
      simp only[List.length_append,List.length_singleton]
      exact zj
    |nil=>
     have hlen3:t.stocks.length=E.length:=by rw[hq];simp
     clear hq
     repeat' ((conv=>whnf);first|(exfalso;omega)|refine zg ?_|refine zl (fun hlt=>?_) (fun hlt=>?_))
     refine aU (A:=List Piece) (B:=List Piece) (fun E S=>mkSt [(0, .sl (l.map aS)),(3, .box 3 0),(4,I D.length),(6, .box 6 0),(20,I E.length)] [(3,invC s),(6,invC t)] []) (fun E S=>s.pieces=E++S) (fun E S=>S.length) [] s.pieces ?_ rfl (fun E S hq=>?_)
     ·exact zj
     cases S with
     |cons q S=>
      have hlen4:=aO hq
      obtain⟨p,hpm,hpi,hpl⟩:=hK q (by rw[hq];simp)
      have k9:=zC hG.ok (show n+more e<=1000000 by omega) hpm
      rw[hpi]at k9
      by_cases hs1:q.status=1
      ·have hpe:p=⟨q.id,q.parent,q.part,q.grade,q.heat,q.size,q.isBar,p.status,p.order⟩:=by
        rcases hpl with h|⟨_,h⟩
        ·rw[h]
        ·exact h
       generalize p.status=pst at*
       generalize p.order=pod at*
       subst hpe
       repeat' ((conv=>whnf);first|(exfalso;omega)|refine aB (l:=s.pieces) (by omega) ?_|refine aF (l:=s.pieces) (A:=E) (x:=q) (B:=S) hq (by omega) ?_|refine cC0 [(21,21),(23,23),(237,21),(239,21),(241,23),(242,23)] (by repeat' (first|exact trivial|exact rfl|refine And.intro ?_ ?_)) (by kernel_rfl) ?_|refine aT0 ?_|refine xE (aG0 ..) ?_|refine zc k9 ?_|refine zg ?_|refine za ?_|refine zy ?_|refine zn ?_|refine zl (fun hlt=>?_) (fun hlt=>?_)|refine ze (fun heq=>?_) (fun heq=>?_))
       all_goals conv=>whnf
       refine⟨(E++[q],S),?_,by rw[hq];simp,by simp⟩
       simp only[List.length_append,List.length_singleton]
       exact zj
      ·have hpe:p=q:=by
        rcases hpl with h|⟨h,_⟩
        ·exact h
        ·exact absurd h hs1
       subst hpe
       repeat' ((conv=>whnf);first|(exfalso;omega)|refine aB (l:=s.pieces) (by omega) ?_|refine aF (l:=s.pieces) (A:=E) (x:=p) (B:=S) hq (by omega) ?_|refine cC0 [(21,21),(23,23),(237,21),(239,21),(241,23),(242,23)] (by repeat' (first|exact trivial|exact rfl|refine And.intro ?_ ?_)) (by kernel_rfl) ?_|refine aT0 ?_|refine xE (aG0 ..) ?_|refine zc k9 ?_|refine zg ?_|refine za ?_|refine zy ?_|refine zn ?_|refine zl (fun hlt=>?_) (fun hlt=>?_)|refine ze (fun heq=>?_) (fun heq=>?_))
       all_goals conv=>whnf
       refine⟨(E++[p],S),?_,by rw[hq];simp,by simp⟩
       simp only[List.length_append,List.length_singleton]
       exact zj
     |nil=>
      have hlen4:s.pieces.length=E.length:=by rw[hq];simp
      clear hq
      repeat' ((conv=>whnf);first|(exfalso;omega)|refine zg ?_|refine za ?_|refine zl (fun hlt=>?_) (fun hlt=>?_))
      all_goals conv=>whnf
      refine⟨(t,D++[e],R),?_,⟨by rw[hp];simp,kk _ hG hV'⟩,by simp⟩
      simp only[List.length_append,List.length_singleton]
      exact zj
  obtain⟨m,hms,hmid,hcc,hrr⟩:=hC hk
  have hmo:=hV m hms
  obtain⟨gs1,gs2,gs3,gs4⟩:=cV7 hmo
  have k4:=bH4 hn.ok hn6 hms
  rw[hmid]at k4
  repeat' ((conv=>whnf);first|(exfalso;omega)|refine aB (l:=l) (by omega) ?_|refine aF (l:=l) (A:=D) (x:=e) (B:=R) hp (by omega) ?_|refine zc k1 ?_|refine zc k2 ?_|refine zc k4 ?_|refine zg ?_|refine zi ?_|refine zo ?_|refine zn ?_|refine zl (fun hlt=>?_) (fun hlt=>?_)|refine ze (fun heq=>?_) (fun heq=>?_))
  all_goals conv=>whnf
  refine aU (A:=List Made) (B:=List Made) (fun E S=>mkSt [(0, .sl (l.map aS)),(3, .box 3 0),(4,I D.length),(5, .box 5 0),(6, .box 6 0),(8, .box 8 0),(10, .lit (.string (m.sheet.grade++m.bar.grade))),(11, .lit (.string (m.sheet.heat++m.bar.heat))),(12,I E.length)] [(3,invC s),(5,iJ e),(6,invC t),(8,gB m)] []) (fun E S=>e.cuts=E++S) (fun E S=>S.length) [] e.cuts ?_ rfl (fun E S hq=>?_)
  ·exact zj
  cases S with
  |cons x S=>
   have hlen2:=aO hq
   have k5:=zC hG.ok hn6' (hcc x (by rw[hq];simp))
   rw[cU4 hmo]at k5
   repeat' ((conv=>whnf);first|(exfalso;omega)|(exfalso;contradiction)|refine jI (fun heq=>?_) (fun heq=>?_)|refine eK5 (fun heq=>?_) (fun heq=>?_)|refine aB (l:=e.cuts) (by omega) ?_|refine aF (l:=e.cuts) (A:=E) (x:=x) (B:=S) hq (by omega) ?_|refine zc k5 ?_|refine zg ?_|refine zi ?_|refine za ?_|refine zn ?_|refine zl (fun hlt=>?_) (fun hlt=>?_)|refine ze (fun heq=>?_) (fun heq=>?_))
   all_goals conv=>whnf
   refine⟨(E++[x],S),?_,by rw[hq];simp,by simp⟩
   simp only[List.length_append,List.length_singleton]
   exact zj
  |nil=>
   have hlen2:e.cuts.length=E.length:=by rw[hq];simp
   clear hq
   repeat' ((conv=>whnf);first|(exfalso;omega)|refine zg ?_|refine zl (fun hlt=>?_) (fun hlt=>?_))
   refine aU (A:=List Rest) (B:=List Rest) (fun E S=>mkSt [(0, .sl (l.map aS)),(3, .box 3 0),(4,I D.length),(5, .box 5 0),(6, .box 6 0),(8, .box 8 0),(10, .lit (.string (m.sheet.grade++m.bar.grade))),(11, .lit (.string (m.sheet.heat++m.bar.heat))),(15,I E.length)] [(3,invC s),(5,iJ e),(6,invC t),(8,gB m)] []) (fun E S=>e.rests=E++S) (fun E S=>S.length) [] e.rests ?_ rfl (fun E S hq=>?_)
   ·exact zj
   cases S with
   |cons x S=>
    have hlen2:=aO hq
    obtain⟨r1,r2,r3,r4,r5,r6,r7,r8⟩:=hrr x (by rw[hq];simp)
    have k5:=bH4 hG.ok hn6' r1
    rw[r2]at k5
    clear r1 r2
    generalize dZ m x=y at*
    obtain⟨yb,⟨y1,y2,y3,y4,y5,y6⟩,⟨y7,y8,y9,y10,y11⟩,yp⟩:=y
    simp only at r3 r4 r5 r6 r7 r8
    subst r3 r4 r5 r6 r7 r8
    repeat' ((conv=>whnf);first|(exfalso;omega)|(exfalso;contradiction)|refine jI (fun heq=>?_) (fun heq=>?_)|refine eK5 (fun heq=>?_) (fun heq=>?_)|refine aB (l:=e.rests) (by omega) ?_|refine aF (l:=e.rests) (A:=E) (x:=x) (B:=S) hq (by omega) ?_|refine fU (show m.sheet.grade.size+m.bar.grade.size<=9223372036854775807 by omega) ?_|refine fU (show m.sheet.heat.size+m.bar.heat.size<=9223372036854775807 by omega) ?_|refine zc k5 ?_|refine zg ?_|refine zi ?_|refine za ?_|refine zn ?_|refine zl (fun hlt=>?_) (fun hlt=>?_))
    all_goals conv=>whnf
    refine⟨(E++[x],S),?_,by rw[hq];simp,by simp⟩
    simp only[List.length_append,List.length_singleton]
    exact zj
   |nil=>
    have hlen2:e.rests.length=E.length:=by rw[hq];simp
    clear hq
    repeat' ((conv=>whnf);first|(exfalso;omega)|refine zg ?_|refine zl (fun hlt=>?_) (fun hlt=>?_))
    refine aU (A:=List aN) (B:=List aN) (fun E S=>mkSt [(0, .sl (l.map aS)),(3, .box 3 0),(4,I D.length),(6, .box 6 0),(18,I E.length)] [(3,invC s),(6,invC t)] []) (fun E S=>t.stocks=E++S) (fun E S=>S.length) [] t.stocks ?_ rfl (fun E S hq=>?_)
    ·exact zj
    cases S with
    |cons y S=>
     have hlen3:=aO hq
     have hy:=hV' y (by rw[hq];simp)
     have hys:=hG.ok.sz y (by rw[hq];simp)
     obtain⟨yb,ysh,ybr,yp⟩:=y
     cases yb
     ·have k8:=nU ysh hys.1
      rw[DB_t (hy.2 rfl).1]at k8
      repeat' ((conv=>whnf);first|(exfalso;omega)|refine aB (l:=t.stocks) (by omega) ?_|refine aF (l:=t.stocks) (A:=E) (x:=⟨false,ysh,ybr,yp⟩) (B:=S) hq (by omega) ?_|refine zc k8 ?_|refine zg ?_|refine za ?_|refine zl (fun hlt=>?_) (fun hlt=>?_))
      all_goals conv=>whnf
      refine⟨(E++[⟨false,ysh,ybr,yp⟩],S),?_,by rw[hq];simp,by simp⟩
      simp only[List.length_append,List.length_singleton]
      exact zj
     ·have k8:=qP ybr hys.2
      rw[DB_t (hy.1 rfl).1]at k8
      repeat' ((conv=>whnf);first|(exfalso;omega)|refine aB (l:=t.stocks) (by omega) ?_|refine aF (l:=t.stocks) (A:=E) (x:=⟨true,ysh,ybr,yp⟩) (B:=S) hq (by omega) ?_|refine zc k8 ?_|refine zg ?_|refine za ?_|refine zl (fun hlt=>?_) (fun hlt=>?_))
      all_goals conv=>whnf
      refine⟨(E++[⟨true,ysh,ybr,yp⟩],S),?_,by rw[hq];simp,by simp⟩
      simp only[List.length_append,List.length_singleton]
      exact zj
    |nil=>
     have hlen3:t.stocks.length=E.length:=by rw[hq];simp
     clear hq
     repeat' ((conv=>whnf);first|(exfalso;omega)|refine zg ?_|refine zl (fun hlt=>?_) (fun hlt=>?_))
     refine aU (A:=List Piece) (B:=List Piece) (fun E S=>mkSt [(0, .sl (l.map aS)),(3, .box 3 0),(4,I D.length),(6, .box 6 0),(20,I E.length)] [(3,invC s),(6,invC t)] []) (fun E S=>s.pieces=E++S) (fun E S=>S.length) [] s.pieces ?_ rfl (fun E S hq=>?_)
     ·exact zj
     cases S with
     |cons q S=>
      have hlen4:=aO hq
      obtain⟨p,hpm,hpi,hpl⟩:=hK q (by rw[hq];simp)
      have k9:=zC hG.ok (show n+more e<=1000000 by omega) hpm
      rw[hpi]at k9
      by_cases hs1:q.status=1
      ·have hpe:p=⟨q.id,q.parent,q.part,q.grade,q.heat,q.size,q.isBar,p.status,p.order⟩:=by
        rcases hpl with h|⟨_,h⟩
        ·rw[h]
        ·exact h
       generalize p.status=pst at*
       generalize p.order=pod at*
       subst hpe
       repeat' ((conv=>whnf);first|(exfalso;omega)|refine aB (l:=s.pieces) (by omega) ?_|refine aF (l:=s.pieces) (A:=E) (x:=q) (B:=S) hq (by omega) ?_|refine cC0 [(21,21),(23,23),(237,21),(239,21),(241,23),(242,23)] (by repeat' (first|exact trivial|exact rfl|refine And.intro ?_ ?_)) (by kernel_rfl) ?_|refine aT0 ?_|refine xE (aG0 ..) ?_|refine zc k9 ?_|refine zg ?_|refine za ?_|refine zy ?_|refine zn ?_|refine zl (fun hlt=>?_) (fun hlt=>?_)|refine ze (fun heq=>?_) (fun heq=>?_))
       all_goals conv=>whnf
       refine⟨(E++[q],S),?_,by rw[hq];simp,by simp⟩
       simp only[List.length_append,List.length_singleton]
       exact zj
      ·have hpe:p=q:=by
        rcases hpl with h|⟨h,_⟩
        ·exact h
        ·exact absurd h hs1
       subst hpe
       repeat' ((conv=>whnf);first|(exfalso;omega)|refine aB (l:=s.pieces) (by omega) ?_|refine aF (l:=s.pieces) (A:=E) (x:=p) (B:=S) hq (by omega) ?_|refine cC0 [(21,21),(23,23),(237,21),(239,21),(241,23),(242,23)] (by repeat' (first|exact trivial|exact rfl|refine And.intro ?_ ?_)) (by kernel_rfl) ?_|refine aT0 ?_|refine xE (aG0 ..) ?_|refine zc k9 ?_|refine zg ?_|refine za ?_|refine zy ?_|refine zn ?_|refine zl (fun hlt=>?_) (fun hlt=>?_)|refine ze (fun heq=>?_) (fun heq=>?_))
       all_goals conv=>whnf
       refine⟨(E++[p],S),?_,by rw[hq];simp,by simp⟩
       simp only[List.length_append,List.length_singleton]
       exact zj
     |nil=>
      have hlen4:s.pieces.length=E.length:=by rw[hq];simp
      clear hq
      repeat' ((conv=>whnf);first|(exfalso;omega)|refine zg ?_|refine za ?_|refine zl (fun hlt=>?_) (fun hlt=>?_))
      all_goals conv=>whnf
      refine⟨(t,D++[e],R),?_,⟨by rw[hp];simp,kk _ hG hV'⟩,by simp⟩
      simp only[List.length_append,List.length_singleton]
      exact zj
end Go.Proofs.Led
