/-
  Stock: sheets that are valid.
-/
import Derived.Test.YtdjgbagnajikeaaGreatDoorB6
set_option linter.unusedVariables false
set_option linter.unusedSimpArgs false
set_option maxRecDepth 100000
set_option maxHeartbeats 4000000
noncomputable section
namespace Go.Proofs.Led
open Go Go.Proofs Go.Ab
def qQ(s d:Sh):Prop:=jV d/\pO s d=0/\lI s d
def dB(s:jL):Prop:=kZ s.id s.grade s.heat/\0<=s.grain/\s.grain<=2/\jV s.shape/\s.defects.length<=6/\dQ (boxS s.shape).1.1/\dQ (boxS s.shape).1.2/\∀d∈s.defects,qQ s.shape d
theorem nU(s:jL)(hs:lK s):Sp 114 [zJ s] (DB (dB s)):=by
 refine zsp Tryz.func114 ?_;obtain⟨hs1,hs2,hs3⟩:=hs;have h1:=aK4 s;have h2:=aI6 s.id s.grade s.heat
 have h3:=aD5 s.shape hs1;have h4:=aS0 s.shape hs1
 have h5:=mJ (boxS s.shape).1.1;have h6:=mJ (boxS s.shape).1.2
 have hr:dB s↔kZ s.id s.grade s.heat/\0<=s.grain/\s.grain<=2/\jV s.shape/\s.defects.length<=6/\dQ (boxS s.shape).1.1/\dQ (boxS s.shape).1.2/\∀d∈s.defects,qQ s.shape d:=Iff.rfl;have hl:(s.defects.map shV).length=s.defects.length:=Ae
 have hdf:∀d,qQ s.shape d↔jV d/\pO s.shape d=0/\lI s.shape d:=fun d=>Iff.rfl;generalize dB s=P at*;generalize kZ s.id s.grade s.heat=p1 at*;generalize jV s.shape=p2 at*;generalize dQ (boxS s.shape).1.1=p3 at*;generalize dQ (boxS s.shape).1.2=p4 at*
 repeat' ((conv=>whnf);first|refine zc h1 ?_|refine zc h2 ?_|refine zc h3 ?_|refine zc h4 ?_|refine zc h5 ?_|refine zc h6 ?_|refine zS ?_|refine zT ?_ ?_<;>intro _|fail)
 all_goals conv=>whnf
 all_goals first
  |exact aA (aC (fun h=>absurd (hr.1 h).1 Ad))
  |exact aA (aC (fun h=>absurd (hr.1 h).2.2.2.1 Ad))
  |exact aA (aC (fun h=>absurd (hr.1 h).2.2.2.2.2.1 Ad))
  |exact aA (aC (fun h=>absurd (hr.1 h).2.2.2.2.2.2.1 Ad))
  |exact aA (aC (fun h=>by have:=(hr.1 h).2.1;have:=(hr.1 h).2.2.1;have:=(hr.1 h).2.2.2.2.1;omega))
  |skip
 have hP:P↔∀d∈s.defects,qQ s.shape d:=⟨fun h=>(hr.1 h).2.2.2.2.2.2.2,fun h=>hr.2 ⟨Ad,Aa,Aa,Ad,Aa,Ad,Ad,h⟩⟩;clear hr;refine aU (A:=List Sh) (B:=List Sh) (fun D R=>mkSt [(1, .box 1 0),(53, .sl (s.defects.map shV)),(54,I s.defects.length),(55,I D.length)] [(1,aA7 s)] []) (fun D R=>s.defects=D++R/\∀d∈D,qQ s.shape d) (fun D R=>R.length) [] s.defects ?_ ⟨rfl,Ae⟩ (fun D R hp=>?_)
 ·exact HY
 obtain⟨hp,hD⟩:=hp
 cases R with
 |nil=>
  have hlen:s.defects.length=D.length:=Af
  repeat' ((conv=>whnf);first|(exfalso;omega)|refine zS ?_|refine zT ?_ ?_<;>intro _|fail)
  all_goals conv=>whnf
  exact NY
 |cons d R=>
  have hlen:=aO hp;have hdm:d∈s.defects:=Af
  have g1:=aA6 s.shape d hs1 (hs3 d hdm);have g2:=aD5 d (hs3 d hdm)
  have hq:=hdf d;generalize jV d=q1 at*;generalize pO s.shape d=q2 at*;generalize lI s.shape d=q3 at*
  repeat' ((conv=>whnf);first|(exfalso;omega)|refine aB (l:=s.defects) Aa ?_|refine aF (l:=s.defects) (A:=D) (x:=d) (B:=R) hp Aa ?_|refine zc g1 ?_|refine zc g2 ?_|refine zS ?_|refine zT ?_ ?_<;>intro _|fail)
  all_goals conv=>whnf
  all_goals first
   |exact aA (aC (fun h=>absurd (hq.1 (hP.1 h d hdm)).1 Ad))
   |exact aA (aC (fun h=>absurd (hq.1 (hP.1 h d hdm)).2.1 Ad))
   |exact aA (aC (fun h=>absurd (hq.1 (hP.1 h d hdm)).2.2 Ad))
   |skip
  exact Oe
def aK2(b:Bx)(d:Sh):List Sh:=open Classical in if xH (nV (boxS d).1 b)then [jT (nV (boxS d).1 b) b.1]else []
def kJ(b:Bx)(l:List Sh):List Sh:=l.flatMap (aK2 b)
def remE(s:jL)(b:Bx)(id:Int):Int:=open Classical in
 if¬dB s then 1 else if¬(nC id/\xH b/\dQ b.1/\dQ b.2)then 2 else if¬lI s.shape (jT b (0,0))then 13 else 0
def remS(s:jL)(b:Bx)(id:Int):jL:=if remE s b id=0 then⟨id,s.grade,s.heat,s.grain,jT b b.1,kJ b s.defects⟩else dN
theorem aD2(b:Bx)(v:Vc):gV (jT b v):=by
 unfold jT;by_cases h:bG (sV (vsub b.1 v) (vsub b.2 v))
 ·exact aU5 h
 ·rw[bH5 h]
  exact⟨by simp[sh0],by simp[sh0],fun r hr=>by simp[sh0]at hr⟩
theorem bX0(b:Bx)(D:List Sh)(d:Sh):kJ b (D++[d])=kJ b D++aK2 b d:=by unfold kJ;simp
theorem yK(b:Bx):∀D:List Sh,(kJ b D).length<=D.length
 | [] =>Nat.le_refl _
 |d::D=>by
  have h:=yK b D;have h2:(aK2 b d).length<=1:=by unfold aK2;split<;>simp
  unfold kJ at h⊢;exact Np
def aB2(s:jL)(b:Bx)(id:Int)(r:Sh)(X:List Sh)(n:Int):St:=match X with
 | [] =>mkSt [(3, .box 3 0),(4, .box 4 0),(6, .box 6 0),(7,I 0),(10, .box 10 0),(68, .sl (s.defects.map shV)),(69,I s.defects.length),(70,I n)]
   [(3,aA7 s),(4,(bxV b).cells),(6,[I 0,S aI,S aI,I 0,nilV,nilV,nilV]),(10,[I id,S s.grade,S s.heat,I s.grain,rgV r.outer, .sl (r.holes.map rgV),nilV])] []
 |x::X=>mkSt [(3, .box 3 0),(4, .box 4 0),(6, .box 6 0),(7,I 0),(10, .box 10 0),(68, .sl (s.defects.map shV)),(69,I s.defects.length),(70,I n)]
  [(3,aA7 s),(4,(bxV b).cells),(6,[I 0,S aI,S aI,I 0,nilV,nilV,nilV]),(10,[I id,S s.grade,S s.heat,I s.grain,rgV r.outer, .sl (r.holes.map rgV), .arr 93 X.length])] [(93,⟨X.length, .own,78,(x::X).map shV⟩)]
theorem cD5(s:jL)(b:Bx)(id:Int)(hs:lK s):Sp 211 [zJ s,bxV b,I id] (.tup [zJ (remS s b id),I (remE s b id)]):=by
 refine zsp Tryz.func211 ?_;have h1:=nU s hs;have h2:=cV8 id
 have h3:=bS8 b;have h4:=mJ b.1
 have h5:=mJ b.2;have h6:=aJ0 b (0,0)
 have h7:=aA6 s.shape (jT b (0,0)) hs.1 (aD2 b (0,0));have h8:=aJ0 b b.1
 by_cases c1:dB s;rotate_left
 ·have e1:remE s b id=1:=by unfold remE;rw[if_pos c1]
  have e2:remS s b id=dN:=CV;rw[e1,e2];exact MZ
 by_cases c2:nC id/\xH b/\dQ b.1/\dQ b.2;rotate_left
 ·have e1:remE s b id=2:=by unfold remE;rw[if_neg (fun h=>h c1),if_pos c2]
  have e2:remS s b id=dN:=CV;rw[e1,e2]
  repeat' ((conv=>whnf);first|(exfalso;contradiction)|(exfalso;exact c2 ⟨Ad,Ad,Ad,Ad⟩)|refine zc h1 ?_|refine zc h2 ?_|refine zc h3 ?_|refine zc h4 ?_|refine zc h5 ?_|refine zS ?_|refine zT ?_ ?_<;>intro _|fail)
  all_goals exact zE
 obtain⟨c21,c22,c23,c24⟩:=c2;by_cases c3:lI s.shape (jT b (0,0));rotate_left
 ·have e1:remE s b id=13:=by unfold remE;rw[if_neg (fun h=>h c1),if_neg (fun h=>h ⟨c21,c22,c23,c24⟩),if_pos c3]
  have e2:remS s b id=dN:=CV;rw[e1,e2]
  repeat' ((conv=>whnf);first|(exfalso;contradiction)|refine zc h1 ?_|refine zc h2 ?_|refine zc h3 ?_|refine zc h4 ?_|refine zc h5 ?_|refine zc h6 ?_|refine zc h7 ?_|refine zS ?_|refine zT ?_ ?_<;>intro _|fail)
  all_goals exact zE
 have e1:remE s b id=0:=by unfold remE;rw[if_neg (fun h=>h c1),if_neg (fun h=>h ⟨c21,c22,c23,c24⟩),if_neg (fun h=>h c3)]
 have e2:remS s b id=⟨id,s.grade,s.heat,s.grain,jT b b.1,kJ b s.defects⟩:=by unfold remS;rw[if_pos e1]
 rw[e1,e2];have hl:(s.defects.map shV).length=s.defects.length:=Ae;generalize jT b b.1=r1 at*;generalize jT b (0,0)=r0 at*
 repeat' ((conv=>whnf);first|(exfalso;contradiction)|refine zc h1 ?_|refine zc h2 ?_|refine zc h3 ?_|refine zc h4 ?_|refine zc h5 ?_|refine zc h6 ?_|refine zc h7 ?_|refine zc h8 ?_|refine zS ?_|refine zT ?_ ?_<;>intro _|fail)
 all_goals conv=>whnf
 refine aU (A:=List Sh) (B:=List Sh) (fun D R=>aB2 s b id r1 (kJ b D) D.length) (fun D R=>s.defects=D++R) (fun D R=>R.length) [] s.defects ?_ rfl (fun D R hp=>?_)
 ·show Le T _ (aB2 s b id r1 [] 0)
  exact Ls
 have hXl:=yK b D;have hdl:=hs.2.1
 cases R with
 |nil=>
  have e:s.defects=D:=Af;have hlen:s.defects.length=D.length:=by rw[e]
  rw[e];generalize kJ b D=X at*
  cases X with
  |nil=>exact Jw
  |cons x X=>exact Jw
 |cons d R=>
  have hlen:=aO hp;have hdm:d∈s.defects:=Af
  have k1:=aS0 d (hs.2.2 d hdm);have k2:=cE9 (boxS d).1 b
  have k3:=aJ0 (nV (boxS d).1 b) b.1;have hsn:=bX0 b D d
  have hlD:((D++[d]).length:Int)=(D.length:Int)+1:=Ae;have hcd:aK2 b d=(open Classical in if xH (nV (boxS d).1 b)then [jT (nV (boxS d).1 b) b.1]else []):=rfl
  generalize kJ b D=X at*;generalize nV (boxS d).1 b=cb at*;generalize jT cb b.1=rr at*;by_cases hw:xH cb
  ·rw[if_pos hw]at hcd
   rw[hcd]at hsn
   cases X with
   |nil=>
    repeat' ((conv=>whnf);first|(exfalso;contradiction)|(exfalso;omega)|refine aB (l:=s.defects) Aa ?_|refine aF (l:=s.defects) (A:=D) (x:=d) (B:=R) hp Aa ?_|refine zc k1 ?_|refine zc k2 ?_|refine zc k3 ?_|refine gX (of_decide_eq_true rfl) (dA rfl) (of_decide_eq_true rfl) ?_|refine zS ?_|refine zT ?_ ?_<;>intro _|fail)
    all_goals conv=>whnf
    refine⟨(D++[d],R),?_,Af,Ae⟩;show Le T _ (aB2 s b id r1 (kJ b (D++[d])) (D++[d]).length);rw[hsn,hlD];show Le T _ (aB2 s b id r1 [rr] _);exact zj
   |cons x X=>
    have hx1:(x::X).length=X.length+1:=rfl
    repeat' ((conv=>whnf);first|(exfalso;contradiction)|(exfalso;omega)|refine aB (l:=s.defects) Aa ?_|refine aF (l:=s.defects) (A:=D) (x:=d) (B:=R) hp Aa ?_|refine zc k1 ?_|refine zc k2 ?_|refine zc k3 ?_|refine iH rfl (.inl rfl) rfl (of_decide_eq_true rfl) (dA rfl) (show((x::X).map shV).length+1<=1000000000 by rw[List.length_map];omega) ?_|refine zS ?_|refine zT ?_ ?_<;>intro _|fail)
    all_goals conv=>whnf
    refine⟨(D++[d],R),?_,Af,Ae⟩;show Le T _ (aB2 s b id r1 (kJ b (D++[d])) (D++[d]).length);rw[hsn,hlD];show Le T _ (aB2 s b id r1 (x::(X++[rr])) _);unfold aB2;exact LY
  ·rw[if_neg hw]at hcd
   rw[hcd,List.append_nil]at hsn
   cases X with
   |nil=>
    repeat' ((conv=>whnf);first|(exfalso;contradiction)|(exfalso;omega)|refine aB (l:=s.defects) Aa ?_|refine aF (l:=s.defects) (A:=D) (x:=d) (B:=R) hp Aa ?_|refine zc k1 ?_|refine zc k2 ?_|refine zS ?_|refine zT ?_ ?_<;>intro _|fail)
    all_goals conv=>whnf
    refine⟨(D++[d],R),?_,Af,Ae⟩;show Le T _ (aB2 s b id r1 (kJ b (D++[d])) (D++[d]).length);rw[hsn,hlD];show Le T _ (aB2 s b id r1 [] _);exact zj
   |cons x X=>
    have hx1:(x::X).length=X.length+1:=rfl
    repeat' ((conv=>whnf);first|(exfalso;contradiction)|(exfalso;omega)|refine aB (l:=s.defects) Aa ?_|refine aF (l:=s.defects) (A:=D) (x:=d) (B:=R) hp Aa ?_|refine zc k1 ?_|refine zc k2 ?_|refine zS ?_|refine zT ?_ ?_<;>intro _|fail)
    all_goals conv=>whnf
    refine⟨(D++[d],R),?_,Af,Ae⟩;show Le T _ (aB2 s b id r1 (kJ b (D++[d])) (D++[d]).length);rw[hsn,hlD];show Le T _ (aB2 s b id r1 (x::X) _);exact zj
def pJ(s:jL):Prop:=s.id=0/\s.grade=aI/\s.heat=aI/\s.grain=0/\s.shape.outer.length=0/\s.shape.holes.length=0/\s.defects.length=0
def yT(b:Bar):Prop:=b.id=0/\b.grade=aI/\b.heat=aI/\b.length=0/\b.defects.length=0
theorem cV3(b:Bar):Sp 113 [barV b] (DB (yT b)):=by
 refine zsp Tryz.func113 ?_;have hr:yT b↔b.id=0/\b.grade=aI/\b.heat=aI/\b.length=0/\b.defects.length=0:=Iff.rfl;generalize yT b=P at*;have l1:(b.defects.map ivV).length=b.defects.length:=Ae
 repeat' ((conv=>whnf);first|refine jI (fun heq=>?_) (fun heq=>?_)|refine zS ?_|refine zT ?_ ?_<;>intro _|fail)
 all_goals conv=>whnf
 all_goals first
  |exact aA (sK ⟨fun h=>hr.2 ⟨Aa,Ad,Ad,Aa,Aa⟩,fun h=>by have:=(hr.1 h).2.2.2.2;omega⟩)
  |exact aA (aC (fun h=>by have:=(hr.1 h);omega))
  |exact aA (aC (fun h=>absurd (hr.1 h).2.1 Ad))
  |exact aA (aC (fun h=>absurd (hr.1 h).2.2.1 Ad))
theorem aW0(n:Int):Sp 160 [I n] (DB (nC n)):=by
 refine zsp Tryz.func160 ?_
 repeat' ((conv=>whnf);first|refine zS ?_|refine zT ?_ ?_<;>intro _|fail)
 all_goals conv=>whnf
 all_goals first
  |exact aA (le_dec ⟨fun h=>⟨Aa,Aa⟩,fun h=>h.2⟩)
  |exact aA (aC (fun h=>by have:=h.1;omega))
def fC6(b:Bool):Int:=if b then 1 else 0
theorem oL(b:Bool):Sp 125 [B b] (I (fC6 b)):=by
 refine zsp Tryz.func125 ?_;cases b
 ·exact zF
 ·exact zF
def sid(x:aN):Int:=if x.isBar then x.bar.id else x.sheet.id
theorem aE2(x:aN):Sp 68 [aQ x] (I (sid x)):=by
 refine zsp Tryz.func68 ?_;exact OC
def eY(x:aN):Prop:=lK x.sheet/\x.bar.defects.length<=1000000
def gG(x:aN):Int:=if x.isBar then x.bar.length else uK x.sheet.shape
theorem vF(x:aN)(hx:eY x):Sp 36 [aQ x] (I (gG x)):=by
 refine zsp Tryz.func36 ?_;have h1:=cG8 x.sheet.shape hx.1.1;exact OC
theorem eqBx(a b c d a' b' c' d':Int):eqT T 4 99 [I a,I b,I c,I d] [I a',I b',I c',I d'] =some (andB (andB (eqB a a') (andB (eqB b b') true)) (andB (andB (eqB c c') (andB (eqB d d') true)) true)):=Ac
theorem cC5{a b c d a' b' c' d':Int}{K:Bool->Prop}(h:K (andB (andB (eqB a a') (andB (eqB b b') true)) (andB (andB (eqB c c') (andB (eqB d d') true)) true))):aL1.match_1 (fun _=>Prop) (eqT T 4 99 [I a,I b,I c,I d] [I a',I b',I c',I d']) K (fun _=>False):=by
 rw[eqBx];exact h
theorem eV4{a b:Bx}:andB (andB (eqB a.1.1 b.1.1) (andB (eqB a.1.2 b.1.2) true)) (andB (andB (eqB a.2.1 b.2.1) (andB (eqB a.2.2 b.2.2) true)) true)=true↔a=b:=by
 obtain⟨⟨a1,a2⟩,⟨a3,a4⟩⟩:=a;obtain⟨⟨b1,b2⟩,⟨b3,b4⟩⟩:=b;unfold andB;simp only[Bool.and_eq_true,aA1,Prod.mk.injEq,and_true]
theorem cA4{a b:Bx}{A B:Prop}(h1:a=b->A)(h2:a≠b->B):branch (andB (andB (eqB a.1.1 b.1.1) (andB (eqB a.1.2 b.1.2) true)) (andB (andB (eqB a.2.1 b.2.1) (andB (eqB a.2.2 b.2.2) true)) true)) A B:=
 jU (fun h=>h1 (eV4.1 h)) (fun h=>h2 (fun e=>by rw[eV4.2 e]at h;cases h))
def bx0:Bx:=((0,0),(0,0))
def aH0(r:Rest)(d:Iv):List Iv:=if max d.1 r.lo<min d.2 r.hi then [(W (max d.1 r.lo-r.lo),W (min d.2 r.hi-r.lo))]else []
def kH(r:Rest)(l:List Iv):List Iv:=l.flatMap (aH0 r)
theorem cK9(r:Rest)(D:List Iv)(d:Iv):kH r (D++[d])=kH r D++aH0 r d:=by unfold kH;simp
theorem aG5(r:Rest):∀D:List Iv,(kH r D).length<=D.length
 | [] =>Nat.le_refl _
 |d::D=>by
  have h:=aG5 r D;have h2:(aH0 r d).length<=1:=by unfold aH0;split<;>simp
  unfold kH at h⊢;exact Np
def iG(x:aN)(r:Rest):Int:=
 if x.isBar=false then(if r.lo≠0\/r.hi≠0 then 1 else remE x.sheet r.box r.id)
 else if r.box≠bx0 then 1 else if r.lo<0\/r.hi<=r.lo\/x.bar.length<r.hi then 2 else 0
def dZ(x:aN)(r:Rest):aN:=
 if x.isBar=false then(if r.lo≠0\/r.hi≠0 then wS else⟨false,remS x.sheet r.box r.id,bar0,aI⟩)
 else if iG x r=0 then⟨true,dN,⟨r.id,x.bar.grade,x.bar.heat,W (r.hi-r.lo),kH r x.bar.defects⟩,aI⟩else wS
abbrev dA5:List V:=[B false,I 0,S aI,S aI,I 0,nilV,nilV,nilV,I 0,S aI,S aI,I 0,nilV,S aI]
def aB6(c:List V)(br:Bar)(r:Rest)(X:List Iv)(n:Int):St:=match X with
 | [] =>mkSt [(2, .box 2 0),(3, .box 3 0),(4, .box 4 0),(8, .box 8 0),(78, .sl (br.defects.map ivV)),(79,I br.defects.length),(80,I n)]
   [(2,c),(3,(bY r).cells),(4,dA5),(8,[I r.id,S br.grade,S br.heat,I (W (r.hi-r.lo)),nilV])] []
 |y::X=>mkSt [(2, .box 2 0),(3, .box 3 0),(4, .box 4 0),(8, .box 8 0),(78, .sl (br.defects.map ivV)),(79,I br.defects.length),(80,I n)]
  [(2,c),(3,(bY r).cells),(4,dA5),(8,[I r.id,S br.grade,S br.heat,I (W (r.hi-r.lo)), .arr 109 X.length])] [(109,⟨X.length, .own,49,(y::X).map ivV⟩)]
theorem dL8(x:aN)(r:Rest)(hx:eY x):Sp 165 [aQ x,bY r] (.tup [aQ (dZ x r),I (iG x r)]):=by
 refine zsp Tryz.func165 ?_;have h1:=cD5 x.sheet r.box r.id hx.1
 cases hb:x.isBar with
 |false=>
  by_cases c1:r.lo≠0\/r.hi≠0
  ·have e1:iG x r=1:=by unfold iG;rw[if_pos hb,if_pos c1]
   have e2:dZ x r=wS:=by unfold dZ;rw[if_pos hb,if_pos c1]
   rw[e1,e2];obtain⟨b,s,br,p⟩:=x;cases hb;exact zF
  ·have e1:iG x r=remE x.sheet r.box r.id:=by unfold iG;rw[if_pos hb,if_neg c1]
   have e2:dZ x r=⟨false,remS x.sheet r.box r.id,bar0,aI⟩:=by unfold dZ;rw[if_pos hb,if_neg c1]
   rw[e1,e2];obtain⟨b,s,br,p⟩:=x;cases hb;generalize remS s r.box r.id=q1 at*;generalize remE s r.box r.id=q2 at*;exact zF
 |true=>
  have hbf:¬x.isBar=false:=by rw[hb];decide
  have c1:¬(x.isBar=false):=hbf;by_cases c2:r.box=bx0;rotate_left
  ·have e1:iG x r=1:=by unfold iG;rw[if_neg c1,if_pos c2]
   have e2:dZ x r=wS:=DX;rw[e1,e2];obtain⟨b,s,br,p⟩:=x;cases hb
   repeat' ((conv=>whnf);first|(exfalso;contradiction)|refine cC5 ?_|refine cA4 (a:=r.box) (b:=bx0) (fun hv=>?_) (fun hv=>?_)|refine zS ?_|fail)
   all_goals exact zE
  by_cases c3:r.lo<0\/r.hi<=r.lo\/x.bar.length<r.hi
  ·have e1:iG x r=2:=by unfold iG;rw[if_neg c1,if_neg (fun h=>h c2),if_pos c3]
   have e2:dZ x r=wS:=DX;rw[e1,e2];obtain⟨b,s,br,p⟩:=x;cases hb
   repeat' ((conv=>whnf);first|(exfalso;contradiction)|(exfalso;omega)|refine cC5 ?_|refine cA4 (a:=r.box) (b:=bx0) (fun hv=>?_) (fun hv=>?_)|refine zS ?_|refine zT ?_ ?_<;>intro _|fail)
   all_goals exact zE
  have e1:iG x r=0:=by unfold iG;rw[if_neg c1,if_neg (fun h=>h c2),if_neg c3]
  have e2:dZ x r=⟨true,dN,⟨r.id,x.bar.grade,x.bar.heat,W (r.hi-r.lo),kH r x.bar.defects⟩,aI⟩:=by unfold dZ;rw[if_neg c1,if_pos e1]
  rw[e1,e2];have hl:(x.bar.defects.map ivV).length=x.bar.defects.length:=Ae;have hdl:=hx.2
  obtain⟨b,s,br,p⟩:=x;cases hb
  repeat' ((conv=>whnf);first|(exfalso;contradiction)|(exfalso;omega)|refine cC5 ?_|refine cA4 (a:=r.box) (b:=bx0) (fun hv=>?_) (fun hv=>?_)|refine zS ?_|refine zT ?_ ?_<;>intro _|fail)
  all_goals conv=>whnf
  clear e1 e2 h1;simp only at hl hdl c3;refine aU (A:=List Iv) (B:=List Iv) (fun D R=>aB6 (gB ⟨true,s,br,p⟩) br r (kH r D) D.length) (fun D R=>br.defects=D++R) (fun D R=>R.length) [] br.defects ?_ rfl (fun D R hp=>?_)
  ·show Le T _ (aB6 (gB ⟨true,s,br,p⟩) br r [] 0)
   exact Ls
  have hXl:=aG5 r D
  cases R with
  |nil=>
   have e:br.defects=D:=Af;have hlen:br.defects.length=D.length:=by rw[e]
   simp only;rw[e];generalize kH r D=X at*
   cases X with
   |nil=>
    exact zF
   |cons y X=>
    exact zF
  |cons d R=>
   have hlen:=aO hp;have hsn:=cK9 r D d
   have hlD:((D++[d]).length:Int)=(D.length:Int)+1:=Ae;generalize kH r D=X at*;by_cases hw:max d.1 r.lo<min d.2 r.hi
   ·have hcd:aH0 r d=[(W (maxI d.1 r.lo-r.lo),W (minI d.2 r.hi-r.lo))] :=by unfold aH0;rw[if_pos hw,mG,lH]
    rw[hcd]at hsn
    cases X with
    |nil=>
     repeat' ((conv=>whnf);first|(exfalso;omega)|(exfalso;simp only[mG,lH]at*;omega)|refine gX (of_decide_eq_true rfl) (dA rfl) (of_decide_eq_true rfl) ?_|refine zS ?_|refine zT ?_ ?_<;>intro _|fail)
     all_goals conv=>whnf
     refine⟨(D++[d],R),?_,Af,Ae⟩;show Le T _ (aB6 (gB ⟨true,s,br,p⟩) br r (kH r (D++[d])) (D++[d]).length);rw[hsn,hlD];show Le T _ (aB6 (gB ⟨true,s,br,p⟩) br r [_] _);exact zj
    |cons y X=>
     have hx1:(y::X).length=X.length+1:=rfl
     repeat' ((conv=>whnf);first|(exfalso;omega)|(exfalso;simp only[mG,lH]at*;omega)|refine iH rfl (.inl rfl) rfl (of_decide_eq_true rfl) (dA rfl) (show((y::X).map ivV).length+1<=1000000000 by rw[List.length_map];omega) ?_|refine zS ?_|refine zT ?_ ?_<;>intro _|fail)
     all_goals conv=>whnf
     refine⟨(D++[d],R),?_,Af,Ae⟩;show Le T _ (aB6 (gB ⟨true,s,br,p⟩) br r (kH r (D++[d])) (D++[d]).length);rw[hsn,hlD];show Le T _ (aB6 (gB ⟨true,s,br,p⟩) br r (y::(X++[_])) _);unfold aB6;exact LY
   ·have hcd:aH0 r d=[] :=by unfold aH0;rw[if_neg hw]
    rw[hcd,List.append_nil]at hsn
    cases X with
    |nil=>
     repeat' ((conv=>whnf);first|(exfalso;omega)|(exfalso;simp only[mG,lH]at*;omega)|refine zS ?_|refine zT ?_ ?_<;>intro _|fail)
     all_goals conv=>whnf
     refine⟨(D++[d],R),?_,Af,Ae⟩;show Le T _ (aB6 (gB ⟨true,s,br,p⟩) br r (kH r (D++[d])) (D++[d]).length);rw[hsn,hlD];show Le T _ (aB6 (gB ⟨true,s,br,p⟩) br r [] _);exact zj
    |cons y X=>
     have hx1:(y::X).length=X.length+1:=rfl
     repeat' ((conv=>whnf);first|(exfalso;omega)|(exfalso;simp only[mG,lH]at*;omega)|refine zS ?_|refine zT ?_ ?_<;>intro _|fail)
     all_goals conv=>whnf
     refine⟨(D++[d],R),?_,Af,Ae⟩;show Le T _ (aB6 (gB ⟨true,s,br,p⟩) br r (kH r (D++[d])) (D++[d]).length);rw[hsn,hlD];show Le T _ (aB6 (gB ⟨true,s,br,p⟩) br r (y::X) _);exact zj
theorem aO4{α:Type}{f:α->V}(h:∀x,(f x).pure)(l:List α):bM (l.map f):=aH.2 fun y hy=>by
 obtain⟨x,_,rfl⟩:=List.mem_map.1 hy;exact h x
theorem eO3(v:Vc):(vcV v).pure:=by simp only[vcV,V.pure,V.ok,V.okL,I,and_self]
theorem bF3(r:Rg):(rgV r).pure:=by
 show V.okL _ _ _;exact aO4 eO3 r
theorem cJ9(l:List Rg):bM (l.map rgV):=aO4 bF3 l
theorem eR4(s:Sh):(shV s).pure:=by
 show V.okL _ _ _;exact⟨bF3 s.outer,by show V.okL _ _ _;exact cJ9 s.holes,trivial⟩
theorem eS7(d:Iv):(ivV d).pure:=by simp only[ivV,V.pure,V.ok,V.okL,I,and_self]
theorem cV5(x:aN):bM (gB x):=by
 unfold gB;refine⟨trivial,trivial,trivial,trivial,trivial,bF3 _,?_,?_,trivial,trivial,trivial,trivial,?_,trivial,trivial⟩
 ·show V.okL _ _ _;exact cJ9 _
 ·show V.okL _ _ _;exact aO4 eR4 _
 ·show V.okL _ _ _;exact aO4 eS7 _
theorem bZ6{σ:St}{i:Nat}{cs:List V}(hi:σ.bx i=some cs)(hil:i<100000)(hcs:bM cs):Le T σ ⟨fun s=>(σ.env s).frz i cs,frzB i cs σ.bx,σ.ar⟩:=by
 unfold Le;intro Φ a w G inv;exact⟨_,(inv.bV0 hi hil hcs).1⟩
def kP(b:Bool)(p q:Rest):Prop:=
 if b=true then max p.lo q.lo<min p.hi q.hi
 else max p.box.1.1 q.box.1.1<min p.box.2.1 q.box.2.1/\max p.box.1.2 q.box.1.2<min p.box.2.2 q.box.2.2
theorem bW5(b:Bool)(p q:Rest):Sp 168 [B b,bY p,bY q] (DB (kP b p q)):=by
 refine zsp Tryz.func168 ?_
 cases b with
 |true=>
  have hr:kP true p q↔max p.lo q.lo<min p.hi q.hi:=by unfold kP;rw[if_pos rfl]
  generalize kP true p q=P at*
  repeat' ((conv=>whnf);first|refine zS ?_|fail)
  all_goals conv=>whnf
  all_goals exact aA (aS1 (by simp only[mG,lH];exact hr.symm))
 |false=>
  have hr:kP false p q↔(max p.box.1.1 q.box.1.1<min p.box.2.1 q.box.2.1/\max p.box.1.2 q.box.1.2<min p.box.2.2 q.box.2.2):=by unfold kP;rw[if_neg (by decide)]
  generalize kP false p q=P at*
  repeat' ((conv=>whnf);first|refine zS ?_|refine zT ?_ ?_<;>intro _|fail)
  all_goals conv=>whnf
  all_goals simp only[mG,lH]at*
  all_goals first
   |exact aA (aS1 ⟨fun h=>hr.2 ⟨Aa,Aa⟩,fun h=>by have:=hr.1 h;omega⟩)
   |exact aA (aC (fun h=>by have:=hr.1 h;omega))
theorem cO8(x:aN)(r q:Rest):Sp 167 [bY q, .fp (gB x), .fp (bY r).cells] (DB (kP x.isBar q r)):=by
 refine zsp Tryz.func167 ?_;have h1:=bW5 x.isBar q r
 repeat' ((conv=>whnf);first|refine zS ?_|fail)
 all_goals conv=>whnf
 all_goals exact aA rfl
theorem eX4{g:FuncId}{c d:List V}{Q:Rest->Prop}(hg:∀m,Sp g (bY m:: [.fp c, .fp d]) (DB (Q m)))(l:List Rest)(hl:l.length<=1000000):fnVC T Tryz.prog Tryz.f212 [.sl (l.map bY), .fn g [.fp c, .fp d]] (I (fstI Q l)):=by
 have hll:(l.map bY).length=l.length:=Ae
 repeat' ((conv=>whnf);first|refine zS ?_|fail)
 refine aU (A:=List Rest) (B:=List Rest) (fun D R=>mkSt [(0, .sl (l.map bY)),(1, .fn g [.fp c, .fp d]),(7,I l.length),(8,I D.length)] [] [])
  (fun D R=>l=D++R/\∀m∈D,¬Q m) (fun D R=>R.length) [] l ?_ ⟨rfl,Ae⟩ (fun D R hp=>?_)
 ·exact zj
 ·exact GL
theorem eA8{g:FuncId}{c d:List V}{Q:Rest->Prop}(hg:∀m,Sp g (bY m:: [.fp c, .fp d]) (DB (Q m)))(l:List Rest)(hl:l.length<=1000000):Sp 212 [.sl (l.map bY), .fn g [.fp c, .fp d]] (I (fstI Q l)):=zsp Tryz.func212 (eX4 hg l hl)
theorem fA8{g:FuncId}{c d:List V}{Q:Rest->Prop}(hg:∀m,Sp g (bY m:: [.fp c, .fp d]) (DB (Q m)))(l:List Rest)(hl:l.length<=1000000):fnVC T Tryz.prog Tryz.f166 [.sl (l.map bY), .fn g [.fp c, .fp d]] (DB (∃m∈l,Q m)):=by
 repeat' ((conv=>whnf);first|refine zc (eA8 hg l hl) ?_|refine zS ?_|fail)
 exact KR
theorem dU5{g:FuncId}{c d:List V}{Q:Rest->Prop}(hg:∀m,Sp g (bY m:: [.fp c, .fp d]) (DB (Q m)))(l:List Rest)(hl:l.length<=1000000):Sp 166 [.sl (l.map bY), .fn g [.fp c, .fp d]] (DB (∃m∈l,Q m)):=zsp Tryz.func166 (fA8 hg l hl)
def cZ(x:aN):List Rest->List Rest->Int
 |_,[] =>0
 |D,r::R=>open Classical in if iG x r≠0 then iG x r else if∃q∈D,kP x.isBar q r then 12 else cZ x (D++[r]) R
def eG(x:aN)(l:List Rest):List aN:=if cZ x [] l=0 then l.map (dZ x)else []
def cP9(x:aN)(e:Event)(D:List Rest):St:=match D with
 | [] =>mkSt [(2, .fp (gB x)),(3, .box 3 0),(6,nilV),(12, .sl (e.rests.map bY)),(13,I e.rests.length),(14,I 0)] [(3,iJ e)] []
 |d::D=>mkSt [(2, .fp (gB x)),(3, .box 3 0),(6, .arr 37 D.length),(12, .sl (e.rests.map bY)),(13,I e.rests.length),(14,I ((D.length:Int)+1))] [(3,iJ e)]
  [(37,⟨D.length, .own,86,((d::D).map (dZ x)).map aQ⟩)]
theorem cU2(x:aN)(e:Event)(hx:eY x)(he:e.rests.length<=1000000):Sp 120 [aQ x,aS e] (.tup [.own 86 ((eG x e.rests).map aQ),I (cZ x [] e.rests)]):=by
 refine zsp Tryz.func120 ?_;have hl:(e.rests.map bY).length=e.rests.length:=Ae;have hE:∀n,cZ x [] e.rests=n->n≠0->eG x e.rests=[] :=fun n h1 h2=>by unfold eG;rw[if_neg (by rw[h1];exact h2)]
 have h0:cZ x [] e.rests=0->eG x e.rests=e.rests.map (dZ x):=fun h=>by unfold eG;rw[if_pos h]
 generalize eG x e.rests=RL at*;generalize hRE:cZ x [] e.rests=RE at*
 repeat' ((conv=>whnf);first|refine zS ?_|fail)
 refine aU (A:=List Rest) (B:=List Rest) (fun D R=>cP9 x e D) (fun D R=>e.rests=D++R/\cZ x D R=RE) (fun D R=>R.length) [] e.rests ?_ ⟨rfl,hRE⟩ (fun D R hp=>?_)
 ·refine Le.trans (bZ6 (i:=2) (cs:=gB x) rfl Ah (cV5 x)) ?_
  show Le T _ (cP9 x e []);exact Ls
 obtain⟨hp,hq⟩:=hp
 have hDl:(e.rests.map bY).take D.length=D.map bY:=by
  have h:(D.map bY).length=D.length:=Ae;rw[hp,List.map_append,<-h];exact List.take_left
 have g0:∀(n:Int) (r:Rest),n.toNat=D.length->Sp 166 [.sl (((e.rests.map bY).take n.toNat).drop (0:Int).toNat), .fn 167 [.fp (gB x), .fp (bY r).cells]] (DB (∃q∈D,kP x.isBar q r)):=fun n r hn=>by
  have h:=dU5 (c:=gB x) (d:=(bY r).cells) (fun q=>cO8 x r q) D (by rw[hp]at he;simp at he;omega)
  rw[hn,hDl];exact h
 cases R with
 |nil=>
  have e1:e.rests=D:=Af;have hlen:e.rests.length=D.length:=by rw[e1]
  have hz:RE=0:=hq.symm;have hz2:=h0 hz
  rw[e1]at hz2;subst hz hz2
  cases D with
  |nil=>
   have h00:([] :List Rest).length=0:=rfl
   repeat' ((conv=>whnf);first|(exfalso;omega)|refine zS ?_|refine zT ?_ ?_<;>intro _|fail)
   all_goals conv=>whnf
   exact LK
  |cons d D=>
   have h00:(d::D).length=D.length+1:=rfl
   repeat' ((conv=>whnf);first|(exfalso;omega)|refine zS ?_|refine zT ?_ ?_<;>intro _|fail)
   all_goals conv=>whnf
   refine⟨_,rfl,⟨⟨rfl,rfl,rfl,rfl⟩,rfl,trivial⟩,rfl⟩
 |cons r R=>
  have hlen:=aO hp;have g1:=dL8 x r hx
  cases D with
  |nil=>
   have h00:([] :List Rest).length=0:=rfl;have g2:=g0 0 r rfl
   by_cases c1:iG x r=0;rotate_left
   ·have eR:RE=iG x r:=by rw[<-hq,cZ,if_pos c1]
    have eL:=hE _ rfl (by rw[eR];exact c1)
    subst eL eR
    repeat' ((conv=>whnf);first|(exfalso;contradiction)|(exfalso;omega)|refine zS ?_|refine zT ?_ ?_<;>intro _|fail)
    all_goals conv=>whnf
    exact LK
   by_cases c2:∃q∈[],kP x.isBar q r
   ·have eR:RE=12:=by rw[<-hq,cZ,if_neg (fun h=>h c1),if_pos c2]
    have eL:=hE _ rfl (by rw[eR];decide)
    subst eL eR
    repeat' ((conv=>whnf);first|(exfalso;contradiction)|(exfalso;omega)|refine fU ⟨Aa,Aa,G8, .inl rfl⟩ ?_|refine zS ?_|refine zT ?_ ?_<;>intro _|fail)
    all_goals conv=>whnf
    exact LK
   ·have eR:RE=cZ x ([] ++[r]) R:=by rw[<-hq,cZ,if_neg (fun h=>h c1),if_neg c2]
    repeat' ((conv=>whnf);first|(exfalso;contradiction)|(exfalso;omega)|refine fU ⟨Aa,Aa,G8, .inl rfl⟩ ?_|refine gX (of_decide_eq_true rfl) (dA rfl) (of_decide_eq_true rfl) ?_|refine zS ?_|refine zT ?_ ?_<;>intro _|fail)
    all_goals conv=>whnf
    refine⟨([] ++[r],R),?_,⟨Gw,eR.symm⟩,Ae⟩;show Le T _ (cP9 x e [r]);exact zj
  |cons d D=>
   have h00:(d::D).length=D.length+1:=rfl;have g2:=g0 ((D.length:Int)+1) r (by rw[h00];omega)
   by_cases c1:iG x r=0;rotate_left
   ·have eR:RE=iG x r:=by rw[<-hq,cZ,if_pos c1]
    have eL:=hE _ rfl (by rw[eR];exact c1)
    subst eL eR
    repeat' ((conv=>whnf);first|(exfalso;contradiction)|(exfalso;omega)|refine aF (l:=e.rests) (A:=(d::D)) (x:=r) (B:=R) hp Aa ?_|refine zS ?_|refine zT ?_ ?_<;>intro _|fail)
    all_goals conv=>whnf
    exact LK
   by_cases c2:∃q∈(d::D),kP x.isBar q r
   ·have eR:RE=12:=by rw[<-hq,cZ,if_neg (fun h=>h c1),if_pos c2]
    have eL:=hE _ rfl (by rw[eR];decide)
    subst eL eR
    repeat' ((conv=>whnf);first|(exfalso;contradiction)|(exfalso;omega)|refine aF (l:=e.rests) (A:=(d::D)) (x:=r) (B:=R) hp Aa ?_|refine fU ⟨Aa,Aa,G8, .inl rfl⟩ ?_|refine zS ?_|refine zT ?_ ?_<;>intro _|fail)
    all_goals conv=>whnf
    exact LK
   ·have eR:RE=cZ x ((d::D)++[r]) R:=by rw[<-hq,cZ,if_neg (fun h=>h c1),if_neg c2]
    repeat' ((conv=>whnf);first|(exfalso;contradiction)|(exfalso;omega)|refine aF (l:=e.rests) (A:=(d::D)) (x:=r) (B:=R) hp Aa ?_|refine fU ⟨Aa,Aa,G8, .inl rfl⟩ ?_|refine iH rfl (.inl rfl) rfl (of_decide_eq_true rfl) (dA rfl) (show(((d::D).map (dZ x)).map aQ).length+1<=1000000000 by rw[List.length_map,List.length_map];omega) ?_|refine zS ?_|refine zT ?_ ?_<;>intro _|fail)
    all_goals conv=>whnf
    refine⟨(d::D++[r],R),?_,⟨Af,eR.symm⟩,Ae⟩;show Le T _ (cP9 x e (d::(D++[r])));unfold cP9;exact LY
end Go.Proofs.Led
