/-
  Events of the program, and states of the reference, out of each other.
-/
import Derived.Test.YtkhhdojgbkophaaGreatQB12
import Derived.Test.YtkhhdojgbkophaaGreatQA14
import Derived.Test.YtkhhdojgbkophaaGreatRows
set_option linter.unusedVariables false
set_option linter.unusedSimpArgs false
set_option maxRecDepth 100000
set_option maxHeartbeats 8000000
noncomputable section
namespace Go.Proofs.Led
open Go Go.Proofs Go.Ab
abbrev Len6{α:Type}(l:List α):Prop:=l.length<=9223372036854775807
def ownC(x:Event)(c r:V):List V:=[I x.kind,I x.id,S x.text,I x.sheet.id,S x.sheet.grade,S x.sheet.heat,I x.sheet.grain,rgV x.sheet.shape.outer, .sl (x.sheet.shape.holes.map rgV), .sl (x.sheet.defects.map shV),
 I x.bar.id,S x.bar.grade,S x.bar.heat,I x.bar.length, .sl (x.bar.defects.map ivV),c,r,I x.scrap]
abbrev zSheet:List V:=[I 0,S aI,S aI,I 0,nilV,nilV,nilV]
abbrev zQ:List V:=[I 0,I 0,S aI,I 0,S aI,S aI,I 0,nilV,nilV,nilV,I 0,S aI,S aI,I 0,nilV,nilV,nilV,I 0]
def bV(k:Nat):List V->V
 | [] =>nilV
 |_::l=> .arr k l.length
def bA(k:Nat)(ty:TypeId):List V->List (Nat×AE)
 | [] => []
 |x::l=> [(k,⟨l.length, .own,ty,x::l⟩)]
def eI9(x:Event):List Made->Int->St
 | [],n=>mkSt [(1, .box 1 0),(2, .box 2 0),(3, .box 3 0),(4,I n)] [(1,iJ x),(2,zQ),(3,ownC x nilV nilV)] []
 |c::C,n=>mkSt [(1, .box 1 0),(2, .box 2 0),(3, .box 3 0),(4,I n)] [(1,iJ x),(2,zQ),(3,ownC x (.arr 34 C.length) nilV)] [(34,⟨C.length, .own,82,(c::C).map dK⟩)]
def bO5(x:Event):List Made->List Rest->Int->St
 | [],[],n=>mkSt [(1, .box 1 0),(2, .box 2 0),(3, .box 3 0),(5,I n)] [(1,iJ x),(2,zQ),(3,ownC x nilV nilV)] []
 |c::C,[],n=>mkSt [(1, .box 1 0),(2, .box 2 0),(3, .box 3 0),(5,I n)] [(1,iJ x),(2,zQ),(3,ownC x (.arr 34 C.length) nilV)] [(34,⟨C.length, .own,82,(c::C).map dK⟩)]
 | [],r::R,n=>mkSt [(1, .box 1 0),(2, .box 2 0),(3, .box 3 0),(5,I n)] [(1,iJ x),(2,zQ),(3,ownC x nilV (.arr 51 R.length))] [(51,⟨R.length, .own,80,(r::R).map bY⟩)]
 |c::C,r::R,n=>mkSt [(1, .box 1 0),(2, .box 2 0),(3, .box 3 0),(5,I n)] [(1,iJ x),(2,zQ),(3,ownC x (.arr 34 C.length) (.arr 51 R.length))] [(34,⟨C.length, .own,82,(c::C).map dK⟩),(51,⟨R.length, .own,80,(r::R).map bY⟩)]
theorem bB8(x:Event)(hc:x.cuts.length<=1000000)(hr:x.rests.length<=1000000):Sp 15 [aS x] (aS x):=by
 refine zsp Tryz.func15 ?_;have hm1:(x.cuts.map dK).length=x.cuts.length:=Af;have hm2:(x.rests.map bY).length=x.rests.length:=Af
 repeat' ((conv=>whnf);first|refine zS ?_|fail)
 refine aU (A:=List Made) (B:=List Made) (fun D R=>eI9 x D D.length) (fun D R=>x.cuts=D++R) (fun D R=>R.length) [] x.cuts ?_ rfl (fun D R hp=>?_)
 ·show Le T _ (eI9 x [] 0)
  exact zj
 cases R with
 |cons c R=>
  have hlen:=aO hp;have hlD:((D++[c]).length:Int)=(D.length:Int)+1:=Af
  cases D with
  |nil=>
   have h00:([] :List Made).length=0:=rfl
   repeat' ((conv=>whnf);first|(exfalso;omega)|refine gX (of_decide_eq_true rfl) (dA rfl) (show(1:Nat)<=1000000000 from Aq) ?_|refine zS ?_|refine zT ?_ ?_<;>intro _|fail)
   all_goals conv=>whnf
   refine⟨([c],R),?_,hp,Af⟩;show Le T _ (eI9 x [c] 1);exact zj
  |cons d D=>
   have h00:(d::D).length=D.length+1:=rfl
   repeat' ((conv=>whnf);first|(exfalso;omega)|refine mX (l:=d::D) rfl rfl (.inl rfl) rfl (of_decide_eq_true rfl) rfl Aa ?_|refine zS ?_|refine zT ?_ ?_<;>intro _|fail)
   all_goals conv=>whnf
   refine⟨(d::(D++[c]),R),?_,Ac,Af⟩;have e1:(d::(D++[c])).map dK=(d::D).map dK++[dK c] :=Af;have e2:(D++[c]).length=D.length+1:=Af
   show Le T _ (mkSt [(1, .box 1 0),(2, .box 2 0),(3, .box 3 0),(4,I ((d::(D++[c])).length:Nat))] [(1,iJ x),(2,zQ),(3,ownC x (.arr 34 (D++[c]).length) nilV)] [(34,⟨(D++[c]).length, .own,82,(d::(D++[c])).map dK⟩)]);rw[e1,e2];have e3:((d::(D++[c])).length:Int)=((d::D).length:Int)+1:=Af;rw[e3];exact zj
 |nil=>
  have hlen:x.cuts.length=D.length:=Ac;have e:x.cuts=D:=Ac
  cases D with
  |nil=>
  ·have hcc:(([] :List Made)).length<=1000000:=by rw[<-e];exact hc
   repeat' ((conv=>whnf);first|(exfalso;omega)|refine zS ?_|refine zT ?_ ?_<;>intro _|fail)
   refine aU (A:=List Rest) (B:=List Rest) (fun D R=>bO5 x [] D D.length) (fun D R=>x.rests=D++R) (fun D R=>R.length) [] x.rests ?_ rfl (fun E R hp=>?_)
   ·show Le T _ (bO5 x [] [] 0)
    exact zj
   cases R with
   |cons r R=>
    have hlen2:=aO hp
    cases E with
    |nil=>
     have h00:([] :List Rest).length=0:=rfl
     repeat' ((conv=>whnf);first|(exfalso;omega)|refine gX (of_decide_eq_true rfl) (dA rfl) (show(1:Nat)<=1000000000 from Aq) ?_|refine zS ?_|refine zT ?_ ?_<;>intro _|fail)
     all_goals conv=>whnf
     refine⟨([r],R),?_,hp,Af⟩;show Le T _ (bO5 x [] [r] 1);exact zj
    |cons d E=>
     have h00:(d::E).length=E.length+1:=rfl
     repeat' ((conv=>whnf);first|(exfalso;omega)|refine mX (l:=d::E) rfl rfl (.inl rfl) rfl (of_decide_eq_true rfl) rfl Aa ?_|refine zS ?_|refine zT ?_ ?_<;>intro _|fail)
     all_goals conv=>whnf
     refine⟨(d::(E++[r]),R),?_,Ac,Af⟩;have e1:(d::(E++[r])).map bY=(d::E).map bY++[bY r] :=Af;have e2:(E++[r]).length=E.length+1:=Af
     have e3:((d::(E++[r])).length:Int)=((d::E).length:Int)+1:=Af;show Le T _ (mkSt [(1, .box 1 0),(2, .box 2 0),(3, .box 3 0),(5,I ((d::(E++[r])).length:Nat))] [(1,iJ x),(2,zQ),(3,ownC x nilV (.arr 51 (E++[r]).length))] ((51,⟨(E++[r]).length, .own,80,(d::(E++[r])).map bY⟩):: []));rw[e1,e2,e3];exact zj
   |nil=>
    have hlen2:x.rests.length=E.length:=Ac;have e4:x.rests=E:=Ac
    have ev:aS x= .agg (ownC x (.sl (([] :List Made).map dK)) (.sl (E.map bY))):=by rw[<-e,<-e4];rfl
    exact Rw
  |cons c C=>
  ·have hcc:(((c::C):List Made)).length<=1000000:=by rw[<-e];exact hc
   repeat' ((conv=>whnf);first|(exfalso;omega)|refine zS ?_|refine zT ?_ ?_<;>intro _|fail)
   refine aU (A:=List Rest) (B:=List Rest) (fun D R=>bO5 x (c::C) D D.length) (fun D R=>x.rests=D++R) (fun D R=>R.length) [] x.rests ?_ rfl (fun E R hp=>?_)
   ·show Le T _ (bO5 x (c::C) [] 0)
    exact zj
   cases R with
   |cons r R=>
    have hlen2:=aO hp
    cases E with
    |nil=>
     have h00:([] :List Rest).length=0:=rfl
     repeat' ((conv=>whnf);first|(exfalso;omega)|refine gX (of_decide_eq_true rfl) (dA rfl) (show(1:Nat)<=1000000000 from Aq) ?_|refine zS ?_|refine zT ?_ ?_<;>intro _|fail)
     all_goals conv=>whnf
     refine⟨([r],R),?_,hp,Af⟩;show Le T _ (bO5 x (c::C) [r] 1);exact zj
    |cons d E=>
     have h00:(d::E).length=E.length+1:=rfl
     repeat' ((conv=>whnf);first|(exfalso;omega)|refine mX (l:=d::E) rfl rfl (.inl rfl) rfl (of_decide_eq_true rfl) rfl Aa ?_|refine zS ?_|refine zT ?_ ?_<;>intro _|fail)
     all_goals conv=>whnf
     refine⟨(d::(E++[r]),R),?_,Ac,Af⟩;have e1:(d::(E++[r])).map bY=(d::E).map bY++[bY r] :=Af;have e2:(E++[r]).length=E.length+1:=Af
     have e3:((d::(E++[r])).length:Int)=((d::E).length:Int)+1:=Af;show Le T _ (mkSt [(1, .box 1 0),(2, .box 2 0),(3, .box 3 0),(5,I ((d::(E++[r])).length:Nat))] [(1,iJ x),(2,zQ),(3,ownC x (.arr 34 C.length) (.arr 51 (E++[r]).length))] ((34,⟨C.length, .own,82,(c::C).map dK⟩)::(51,⟨(E++[r]).length, .own,80,(d::(E++[r])).map bY⟩):: []));rw[e1,e2,e3];exact zj
   |nil=>
    have hlen2:x.rests.length=E.length:=Ac;have e4:x.rests=E:=Ac
    have ev:aS x= .agg (ownC x (.sl (((c::C):List Made).map dK)) (.sl (E.map bY))):=by rw[<-e,<-e4];rfl
    exact Rw
def aV5(s:Sh):Prop:=s.outer.length<=9223372036854775807/\s.holes.length<=9223372036854775807/\∀h∈s.holes,h.length<=9223372036854775807
def aA4(s:jL):Prop:=aV5 s.shape/\s.defects.length<=9223372036854775807/\∀d∈s.defects,aV5 d
structure bI1(e:Event):Prop where
 sh:aA4 e.sheet
 br:e.bar.defects.length<=9223372036854775807
 ct:e.cuts.length<=9223372036854775807
 rs:e.rests.length<=9223372036854775807
def cntS(n:Int)(l:List Rg):Int:=l.foldl (fun n h=>W (n+(h.length:Int))) n
theorem dP1(n:Int)(D:List Rg)(h:Rg):cntS n (D++[h])=W (cntS n D+(h.length:Int)):=by unfold cntS;simp
def fewS(s:Sh):Prop:=s.holes.length<=3/\cntS s.outer.length s.holes<=24
def xY(s:jL):Prop:=(∀d∈s.defects,fewS d)/\s.grade.size<=40/\s.heat.size<=40/\s.defects.length<=8/\fewS s.shape
def aJ9(b:Bar):Prop:=b.grade.size<=40/\b.heat.size<=40/\b.defects.length<=10
def fewE(e:Event):Prop:=(e.cuts.length<=12/\e.rests.length<=8/\e.text.size<=40/\xY e.sheet/\aJ9 e.bar)/\∀c∈e.cuts,c.part.size<=40
def fewL(l:List Event)(n:Int):Prop:=(∀e∈l,fewE e)/\(l.length:Int)<=n
theorem bR9(s:Sh)(hs:aV5 s):Sp 133 [shV s] (DB (fewS s)):=by
 refine zsp Tryz.func133 ?_;obtain⟨hs1,hs2,hs3⟩:=hs;have hm1:(s.outer.map vcV).length=s.outer.length:=Af;have hm2:(s.holes.map rgV).length=s.holes.length:=Af
 have hr:fewS s↔s.holes.length<=3/\cntS s.outer.length s.holes<=24:=Iff.rfl;generalize fewS s=P at*
 repeat' ((conv=>whnf);first|refine zS ?_|fail)
 refine aU (A:=List Rg) (B:=List Rg) (fun D R=>mkSt [(1, .box 1 0),(3,I (cntS s.outer.length D)),(4,I D.length)] [(1,(shV s).cells)] []) (fun D R=>s.holes=D++R) (fun D R=>R.length) [] s.holes ?_ rfl (fun D R hp=>?_)
 ·show Le _ _ (mkSt [(1, .box 1 0),(3,I (s.outer.length:Int)),(4,I 0)] [(1,(shV s).cells)] [])
  rw[<-hm1];exact zj
 cases R with
 |cons h R=>
  have e0:=dP1 s.outer.length D;generalize cntS (s.outer.length:Int) D=n at*;have hlen:=aO hp
  have hhl:h.length<=9223372036854775807:=hs3 h Ac;have hhm:(h.map vcV).length=h.length:=Af
  have e1:=e0 h
  repeat' ((conv=>whnf);first|(exfalso;omega)|refine zS ?_|refine zT ?_ ?_<;>intro _|fail)
  all_goals conv=>whnf
  refine⟨(D++[h],R),?_,Ac,Af⟩;simp only[List.length_append,List.length_singleton,e1];rw[<-hhm];show Le _ _ (mkSt [(1, .box 1 0),(3,I (W (n+((h.map vcV).length:Int)))),(4,I ((D.length:Int)+1))] [(1,(shV s).cells)] []);exact zj
 |nil=>
  have hlen:s.holes.length=D.length:=Ac;have e:s.holes=D:=Ac
  have hc:cntS (s.outer.length:Int) s.holes=cntS (s.outer.length:Int) D:=J5;rw[hc]at hr;generalize cntS (s.outer.length:Int) D=n at*;clear hp e hc
  repeat' ((conv=>whnf);first|(exfalso;omega)|refine zS ?_|refine zT ?_ ?_<;>intro _|fail)
  all_goals conv=>whnf
  ·exact aA (le_dec ⟨fun h=>hr.2 ⟨Aa,h⟩,fun h=>(hr.1 h).2⟩)
  ·exact aA (aC fun h=>I5)
theorem bM5(s:jL)(hs:aA4 s):Sp 52 [zJ s] (DB (xY s)):=by
 refine zsp Tryz.func52 ?_;obtain⟨hs1,hs2,hs3⟩:=hs;have hm1:(s.defects.map shV).length=s.defects.length:=Af;have hr:xY s↔(∀d∈s.defects,fewS d)/\s.grade.size<=40/\s.heat.size<=40/\s.defects.length<=8/\fewS s.shape:=Iff.rfl
 have h1:=bR9 s.shape hs1;generalize xY s=P at*;generalize fewS s.shape=p1 at*
 repeat' ((conv=>whnf);first|refine zS ?_|fail)
 refine aU (A:=List Sh) (B:=List Sh) (fun D R=>mkSt [(1, .box 1 0),(3,I D.length)] [(1,aA7 s)] []) (fun D R=>s.defects=D++R/\∀d∈D,fewS d) (fun D R=>R.length) [] s.defects ?_ ⟨rfl,Af⟩ (fun D R hp=>?_)
 ·exact zj
 obtain⟨hp,hD⟩:=hp
 cases R with
 |cons d R=>
  have hlen:=aO hp;have hdm:d∈s.defects:=Ac
  have g1:=bR9 d (hs3 d hdm);have hq:fewS d↔fewS d:=Iff.rfl
  generalize hQ:fewS d=q1 at*
  repeat' ((conv=>whnf);first|(exfalso;omega)|refine zS ?_|refine zT ?_ ?_<;>intro _|fail)
  all_goals conv=>whnf
  all_goals first
   |exact aA (aC fun h=>absurd ((hr.1 h).1 d hdm) (by rw[hQ];assumption))
   |skip
  refine⟨(D++[d],R),?_,⟨Ac,fun z hz=>?_⟩,Af⟩
  ·exact J8
  ·rcases List.mem_append.1 hz with hz|hz
   ·exact hD z hz
   ·rw[List.mem_singleton.1 hz,hQ];assumption
 |nil=>
  have hlen:s.defects.length=D.length:=Ac;have hA:∀d∈s.defects,fewS d:=fun d h=>hD d BM
  clear hp hD
  repeat' ((conv=>whnf);first|(exfalso;omega)|refine zS ?_|refine zT ?_ ?_<;>intro _|fail)
  all_goals conv=>whnf
  all_goals first
   |exact aA (aC fun h=>by have:=(hr.1 h).2;omega)
   |exact aA (fQ ⟨fun h=>hr.2 ⟨hA,Aa,Aa,Aa,h⟩,fun h=>(hr.1 h).2.2.2.2⟩)
theorem aT9(b:Bar):Sp 26 [barV b] (DB (aJ9 b)):=by
 refine zsp Tryz.func26 ?_;have hm1:(b.defects.map ivV).length=b.defects.length:=Af;have hr:aJ9 b↔b.grade.size<=40/\b.heat.size<=40/\b.defects.length<=10:=Iff.rfl
 generalize aJ9 b=P at*
 repeat' ((conv=>whnf);first|refine zS ?_|refine zT ?_ ?_<;>intro _|fail)
 all_goals conv=>whnf
 all_goals first
  |exact aA (aC fun h=>IL)
  |exact aA (le_dec ⟨fun h=>hr.2 ⟨Aa,Aa,Aa⟩,fun h=>by have:=(hr.1 h).2.2;omega⟩)
theorem aS2(l:List Event)(n:Int)(hl:l.length<=9223372036854775807)(hb:∀e∈l,bI1 e):Sp 13 [.sl (l.map aS),I n] (DB (fewL l n)):=by
 refine zsp Tryz.func13 ?_;have hm:(l.map aS).length=l.length:=Af;have hr:fewL l n↔(∀e∈l,fewE e)/\(l.length:Int)<=n:=Iff.rfl
 generalize fewL l n=P at*
 repeat' ((conv=>whnf);first|refine zS ?_|fail)
 refine aU (A:=List Event) (B:=List Event) (fun D R=>mkSt [(0, .sl (l.map aS)),(1,I n),(5,I D.length)] [] []) (fun D R=>l=D++R/\∀d∈D,fewE d) (fun D R=>R.length) [] l ?_ ⟨rfl,Af⟩ (fun D R hp=>?_)
 ·exact zj
 obtain⟨hp,hD⟩:=hp
 cases R with
 |cons e R=>
  have hlen:=aO hp;have hdm:e∈l:=Ac
  obtain⟨b1,b2,b3,b4⟩:=hb e hdm;have g1:=bM5 e.sheet b1;have g2:=aT9 e.bar
  have hc1:(e.cuts.map dK).length=e.cuts.length:=Af;have hc2:(e.rests.map bY).length=e.rests.length:=Af
  have hq:fewE e↔(e.cuts.length<=12/\e.rests.length<=8/\e.text.size<=40/\xY e.sheet/\aJ9 e.bar)/\∀c∈e.cuts,c.part.size<=40:=Iff.rfl;have hPe:P->fewE e:=fun h=>(hr.1 h).1 e hdm
  have hD2:fewE e->∀d∈D++[e],fewE d:=fun h d hd=>by
   rcases List.mem_append.1 hd with hd|hd
   ·exact hD d hd
   ·rw[List.mem_singleton.1 hd];exact h
  generalize fewE e=Q at*;generalize xY e.sheet=q1 at*;generalize aJ9 e.bar=q2 at*
  repeat' ((conv=>whnf);first|(exfalso;omega)|refine zS ?_|refine zd (fun hd=>?_) (fun hd=>?_)|refine zl (fun hlt=>?_) (fun hlt=>?_))
  all_goals conv=>whnf
  all_goals first
   |exact aA (aC fun h=>by have:=(hq.1 (hPe h)).1;omega)
   |exact aA (aC fun h=>absurd (hq.1 (hPe h)).1.2.2.2.1 Ag)
   |exact aA (aC fun h=>absurd (hq.1 (hPe h)).1.2.2.2.2 Ag)
   |skip
  refine aU (A:=List Made) (B:=List Made) (fun E S=>mkSt [(0, .sl (l.map aS)),(1,I n),(5,I D.length),(6,I E.length)] [] []) (fun E S=>e.cuts=E++S/\∀c∈E,c.part.size<=40) (fun E S=>S.length) [] e.cuts ?_ ⟨rfl,Af⟩ (fun E S hs=>?_)
  ·exact zj
  obtain⟨hs,hE⟩:=hs
  cases S with
  |cons c S=>
   have hlen2:=aO hs;have hcm:c∈e.cuts:=by rw[hs];simp
   repeat' ((conv=>whnf);first|(exfalso;omega)|refine zS ?_|refine zl (fun hlt=>?_) (fun hlt=>?_))
   all_goals conv=>whnf
   all_goals first
    |exact aA (aC fun h=>by have:=(hq.1 (hPe h)).2 c hcm;omega)
    |skip
   refine⟨(E++[c],S),?_,⟨by rw[hs];simp,fun z hz=>?_⟩,Af⟩
   ·exact J8
   ·rcases List.mem_append.1 hz with hz|hz
    ·exact hE z hz
    ·rw[List.mem_singleton.1 hz];omega
  |nil=>
   have hlen2:e.cuts.length=E.length:=by rw[hs];simp
   have hA:∀c∈e.cuts,c.part.size<=40:=fun c h=>hE c (by rw[hs,List.append_nil]at h;exact h)
   clear hs hE
   repeat' ((conv=>whnf);first|(exfalso;omega)|refine zS ?_|refine zl (fun hlt=>?_) (fun hlt=>?_))
   all_goals conv=>whnf
   refine⟨(D++[e],R),?_,⟨Ac,hD2 (hq.2 ⟨⟨Aa,Aa,Aa,Ag,Ag⟩,hA⟩)⟩,Af⟩;exact P6
 |nil=>
  have hlen:l.length=D.length:=Ac;have hA:∀d∈l,fewE d:=fun d h=>hD d BM
  clear hp hD
  repeat' ((conv=>whnf);first|(exfalso;omega)|refine zS ?_|refine zl (fun hlt=>?_) (fun hlt=>?_))
  all_goals conv=>whnf
  exact aA (le_dec ⟨fun h=>hr.2 ⟨hA,Aa⟩,fun h=>by have:=(hr.1 h).2;omega⟩)
end Go.Proofs.Led
namespace Go.Proofs.YtkhhdojgbkophaaGreat
open Go.ChangeShapes Go.WideShapes Go.ChangeAt Go.RowKit Go.Ab Go.Proofs.Led
theorem own:ownKnob Tryz.prog.godebug=none:=Ad
theorem laidOut:laidOutB Tryz.prog=true:=Ad
abbrev Q3:List V->Prop:=QInt .i64 (-9223372036854775808) 9223372036854775807
theorem d3(W:World):Dec Tryz.prog W (bQ W) 3 Q3:=dI6 (k:= .i64) Ad Ad (fun n h=>by
 simp[Lit.wf,IntKind.min,IntKind.max,IntKind.signed,IntKind.bits]at h;omega)
abbrev Q9:List V->Prop:=QStr
theorem d9(W:World):Dec Tryz.prog W (bQ W) 9 Q9:=eO8 Ad Ad
abbrev Q76:List V->Prop:=QAll [Q3,Q3]
theorem d76(W:World):Dec Tryz.prog W (bQ W) 76 Q76:=lZ Tryz.underlying76 (aY rfl (d3 W) (aY Ad (d3 W) (mM Ad)))
abbrev Q39:List V->Prop:=zI true Q76
theorem d39(W:World):Dec Tryz.prog W (bQ W) 39 Q39:=pV true Ad Ad (d76 W) Ak (fun h=>Ah) (jZ W)
abbrev Q40:List V->Prop:=zI false Q39
theorem d40(W:World):Dec Tryz.prog W (bQ W) 40 Q40:=pV false Ad Ad (d39 W) Ak (fun _=>Ad) (jZ W)
abbrev Q42:List V->Prop:=QAll [Q39,Q40]
theorem d42(W:World):Dec Tryz.prog W (bQ W) 42 Q42:=lZ Tryz.underlying42 (aY rfl (d39 W) (aY Ad (d40 W) (mM Ad)))
abbrev Q43:List V->Prop:=zI true Q42
theorem d43(W:World):Dec Tryz.prog W (bQ W) 43 Q43:=pV true Ad Ad (d42 W) Ak (fun h=>Ah) (jZ W)
abbrev Q45:List V->Prop:=QAll [Q3,Q9,Q9,Q3,Q42,Q43]
theorem d45(W:World):Dec Tryz.prog W (bQ W) 45 Q45:=lZ Tryz.underlying45 (aY rfl (d3 W) (aY Ad (d9 W) (aY Ad (d9 W) (aY Ad (d3 W) (aY Ad (d42 W) (aY Ad (d43 W) (mM Ad)))))))
abbrev Q28:List V->Prop:=QAll [Q3,Q3]
theorem d28(W:World):Dec Tryz.prog W (bQ W) 28 Q28:=dN6 (m:=2) (e:=3) Ad (aY Ad (d3 W) (aY Ad (d3 W) (mM Ad)))
abbrev Q46:List V->Prop:=zI true Q28
theorem d46(W:World):Dec Tryz.prog W (bQ W) 46 Q46:=pV true Ad Ad (d28 W) Ak (fun h=>Ah) (jZ W)
abbrev Q48:List V->Prop:=QAll [Q3,Q9,Q9,Q3,Q46]
theorem d48(W:World):Dec Tryz.prog W (bQ W) 48 Q48:=lZ Tryz.underlying48 (aY rfl (d3 W) (aY Ad (d9 W) (aY Ad (d9 W) (aY Ad (d3 W) (aY Ad (d46 W) (mM Ad))))))
abbrev Q129:List V->Prop:=QAll [Q3,Q9,Q3]
theorem d129(W:World):Dec Tryz.prog W (bQ W) 129 Q129:=lZ Tryz.underlying129 (aY rfl (d3 W) (aY Ad (d9 W) (aY Ad (d3 W) (mM Ad))))
abbrev Q54:List V->Prop:=zI true Q129
theorem d54(W:World):Dec Tryz.prog W (bQ W) 54 Q54:=pV true Ad Ad (d129 W) Ak (fun h=>Ah) (jZ W)
abbrev Q78:List V->Prop:=QAll [Q76,Q76]
theorem d78(W:World):Dec Tryz.prog W (bQ W) 78 Q78:=lZ Tryz.underlying78 (aY rfl (d76 W) (aY Ad (d76 W) (mM Ad)))
abbrev Q137:List V->Prop:=QAll [Q3,Q78,Q3,Q3]
theorem d137(W:World):Dec Tryz.prog W (bQ W) 137 Q137:=lZ Tryz.underlying137 (aY rfl (d3 W) (aY Ad (d78 W) (aY Ad (d3 W) (aY Ad (d3 W) (mM Ad)))))
abbrev Q55:List V->Prop:=zI true Q137
theorem d55(W:World):Dec Tryz.prog W (bQ W) 55 Q55:=pV true Ad Ad (d137 W) Ak (fun h=>Ah) (jZ W)
abbrev Q57:List V->Prop:=QAll [Q3,Q3,Q9,Q45,Q48,Q54,Q55,Q3]
theorem d57(W:World):Dec Tryz.prog W (bQ W) 57 Q57:=lZ Tryz.underlying57 (aY rfl (d3 W) (aY Ad (d3 W) (aY Ad (d9 W) (aY Ad (d45 W) (aY Ad (d48 W) (aY Ad (d54 W) (aY Ad (d55 W) (aY Ad (d3 W) (mM Ad)))))))))
abbrev Q22:List V->Prop:=zI true Q57
theorem d22(W:World):Dec Tryz.prog W (bQ W) 22 Q22:=pV true Ad Ad (d57 W) Ak (fun h=>Ah) (jZ W)
abbrev Q5:List V->Prop:=QInt .u8 (0) 255
theorem d5(W:World):Dec Tryz.prog W (bQ W) 5 Q5:=dI6 (k:= .u8) Ad Ad (fun n h=>by
 simp[Lit.wf,IntKind.min,IntKind.max,IntKind.signed,IntKind.bits]at h;omega)
abbrev Q73:List V->Prop:=zI false Q5
theorem uO{α:Type}{f:α->V}{Q:List V->Prop}{P:α->Prop}(h:∀xs,Q xs->∃a,V.agg xs=f a/\P a):∀ {l:List V},(∀x∈l,Q x.cells/\(true=true->∃ys,x= .agg ys)/\(true=false->∀ys,x≠ .agg ys))->∃l':List α,l=l'.map f/\∀a∈l',P a
 | [],_=>⟨[],rfl,Af⟩
 |x::l,hl=>by
  obtain⟨h1,h2,_⟩:=hl x Af;obtain⟨ys,rfl⟩:=h2 rfl;obtain⟨m,hm,hp⟩:=h ys h1;obtain⟨l',rfl,hl'⟩:=uO h (l:=l) (fun y hy=>hl y Hg);refine⟨m::l',by rw[List.map_cons,<-hm],fun z hz=>?_⟩
  exact TI
theorem cF8{α:Type}{f:α->V}{Q:List V->Prop}{P:α->Prop}(h:∀xs,Q xs->∃a,xs=[f a]/\P a):∀ {l:List V},(∀x∈l,Q x.cells/\(false=true->∃ys,x= .agg ys)/\(false=false->∀ys,x≠ .agg ys))->∃l':List α,l=l'.map f/\∀a∈l',P a
 | [],_=>⟨[],rfl,Af⟩
 |x::l,hl=>by
  obtain⟨h1,_,h2⟩:=hl x Af;obtain⟨m,hm,hp⟩:=h _ h1;obtain⟨l',rfl,hl'⟩:=cF8 h (l:=l) (fun y hy=>hl y Hg)
  have hx:x=f m:=by
   cases x with
   |agg ys=>exact(h2 rfl ys rfl).elim
   |_=>simp only[V.cells,List.cons.injEq,and_true]at hm;exact hm
  refine⟨m::l',by rw[List.map_cons,<-hx],fun z hz=>?_⟩
  exact TI
theorem max6{n:Nat}(h:n<=maxLen):n<=9223372036854775807:=by unfold maxLen at h;omega
theorem vc_of(xs:List V)(h:Q76 xs):∃a:Vc,V.agg xs=vcV a/\True:=Ox
theorem rg_of(xs:List V)(h:Q39 xs):∃a:Rg,xs=[rgV a]/\Len6 a:=by
 obtain⟨l,rfl,hl,h⟩:=h;obtain⟨l',rfl,_⟩:=uO vc_of h;exact⟨l',rfl,FK⟩
theorem eZ3(xs:List V)(h:Q40 xs):∃a:List Rg,xs=[.sl (a.map rgV)]/\Len6 a/\∀r∈a,Len6 r:=by
 obtain⟨l,rfl,hl,h⟩:=h;obtain⟨l',rfl,h'⟩:=cF8 rg_of h;exact⟨l',rfl,FK,h'⟩
theorem eT9(xs:List V)(h:Q42 xs):∃a:Sh,V.agg xs=shV a/\aV5 a:=by
 obtain⟨x1,x2,rfl,h1,x3,x4,rfl,h2,rfl⟩:=h;obtain⟨o,rfl,ho⟩:=rg_of _ h1;obtain⟨q,rfl,hq,hr⟩:=eZ3 _ h2;exact⟨⟨o,q⟩,rfl,ho,hq,hr⟩
theorem eY8(xs:List V)(h:Q43 xs):∃a:List Sh,xs=[.sl (a.map shV)]/\Len6 a/\∀r∈a,aV5 r:=by
 obtain⟨l,rfl,hl,h⟩:=h;obtain⟨l',rfl,h'⟩:=uO eT9 h;exact⟨l',rfl,FK,h'⟩
theorem eF9(xs:List V)(h:Q45 xs):∃a:jL,xs=aA7 a/\aA4 a:=by
 obtain⟨_,_,rfl,⟨i,rfl,_⟩,_,_,rfl,⟨g,rfl,_⟩,_,_,rfl,⟨t,rfl,_⟩,_,_,rfl,⟨n,rfl,_⟩,x1,_,rfl,h1,x2,_,rfl,h2,rfl⟩:=h;obtain⟨s,hs,hb⟩:=eT9 _ h1;obtain⟨d,rfl,hd,he⟩:=eY8 _ h2;have hx:x1=[rgV s.outer, .sl (s.holes.map rgV)] :=V.agg.inj hs;subst hx;exact⟨⟨i,g,t,n,s,d⟩,rfl,hb,hd,he⟩
theorem iv_of(xs:List V)(h:Q28 xs):∃a:Iv,V.agg xs=ivV a/\True:=Ox
theorem eY4(xs:List V)(h:Q48 xs):∃a:Bar,xs=barC a/\Len6 a.defects:=by
 obtain⟨_,_,rfl,⟨i,rfl,_⟩,_,_,rfl,⟨g,rfl,_⟩,_,_,rfl,⟨t,rfl,_⟩,_,_,rfl,⟨n,rfl,_⟩,x2,_,rfl,⟨l,rfl,hl,h2⟩,rfl⟩:=h;obtain⟨d,rfl,_⟩:=uO iv_of h2;exact⟨⟨i,g,t,n,d⟩,rfl,FK⟩
theorem eR2(xs:List V)(h:Q129 xs):∃a:Made,V.agg xs=dK a/\True:=by
 obtain⟨_,_,rfl,⟨a,rfl,ra⟩,_,_,rfl,⟨b,rfl,rb⟩,_,_,rfl,⟨c,rfl,rc⟩,rfl⟩:=h;exact⟨⟨a,b,c⟩,rfl,trivial⟩
theorem rest_of(xs:List V)(h:Q137 xs):∃a:Led.Rest,V.agg xs=bY a/\True:=by
 obtain⟨_,_,rfl,⟨a,rfl,ra⟩,_,_,rfl,⟨_,_,rfl,⟨_,_,rfl,⟨b,rfl,rb⟩,_,_,rfl,⟨c,rfl,rc⟩,rfl⟩,_,_,rfl,⟨_,_,rfl,⟨d,rfl,rd⟩,_,_,rfl,⟨e,rfl,re⟩,rfl⟩,rfl⟩,_,_,rfl,⟨f,rfl,rf⟩,_,_,rfl,⟨g,rfl,rg⟩,rfl⟩:=h;exact⟨⟨a,((b,c),(d,e)),f,g⟩,rfl,trivial⟩
theorem ev_of(xs:List V)(h:Q57 xs):∃a:Led.Event,V.agg xs=aS a/\bI1 a:=by
 obtain⟨_,_,rfl,⟨k,rfl,_⟩,_,_,rfl,⟨i,rfl,_⟩,_,_,rfl,⟨t,rfl,_⟩,x1,_,rfl,h1,x2,_,rfl,h2,_,_,rfl,⟨l1,rfl,b1,q1⟩,_,_,rfl,⟨l2,rfl,b2,q2⟩,_,_,rfl,⟨z,rfl,_⟩,rfl⟩:=h;obtain⟨s,rfl,hs⟩:=eF9 _ h1;obtain⟨b,rfl,hb⟩:=eY4 _ h2;obtain⟨c,rfl,_⟩:=uO eR2 q1;obtain⟨r,rfl,_⟩:=uO rest_of q2;exact⟨⟨k,i,t,s,b,c,r,z⟩,rfl,hs,hb,by simpa using max6 b1,by simpa using max6 b2⟩
theorem cC1{l:List V}(h:∀x∈l,Q57 x.cells/\(true=true->∃ys,x= .agg ys)/\(true=false->∀ys,x≠ .agg ys)):∃l':List Led.Event,l=l'.map aS/\∀a∈l',bI1 a:=uO ev_of h
end Go.Proofs.YtkhhdojgbkophaaGreat
