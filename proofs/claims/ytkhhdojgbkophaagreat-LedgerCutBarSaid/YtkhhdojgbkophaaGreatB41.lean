/-
  Arguments that are few.
-/
import Derived.Test.YtkhhdojgbkophaaGreatB39
import Derived.Test.YtkhhdojgbkophaaGreatB40
import Derived.Test.YtkhhdojgbkophaaGreatA17
import Derived.Test.YtkhhdojgbkophaaGreatRows
import Derived.WalkKit
import Derived.ProofKit
import Derived.OpenShut
set_option linter.unusedVariables false
set_option linter.unusedSimpArgs false
namespace Go.Proofs.Led
open Go Go.Proofs Go.Ab
set_option maxRecDepth 100000
set_option maxHeartbeats 4000000
def aV5(s:Sh):Prop:=s.outer.length<=9223372036854775807/\s.holes.length<=9223372036854775807/\∀h∈s.holes,h.length<=9223372036854775807
def aA4(s:jL):Prop:=aV5 s.shape/\s.defects.length<=9223372036854775807/\∀d∈s.defects,aV5 d
structure bI1(e:Event):Prop where
 sh:aA4 e.sheet
 br:e.bar.defects.length<=9223372036854775807
 ct:e.cuts.length<=9223372036854775807
 rs:e.rests.length<=9223372036854775807
noncomputable def cntS(n:Int)(l:List Rg):Int:=l.foldl (fun n h=>W (n+(h.length:Int))) n
theorem dP1(n:Int)(D:List Rg)(h:Rg):cntS n (D++[h])=W (cntS n D+(h.length:Int)):=by unfold cntS;simp
noncomputable def fewS(s:Sh):Prop:=s.holes.length<=3/\cntS s.outer.length s.holes<=24
noncomputable def xY(s:jL):Prop:=(∀d∈s.defects,fewS d)/\s.grade.size<=40/\s.heat.size<=40/\s.defects.length<=8/\fewS s.shape
def aJ9(b:Bar):Prop:=b.grade.size<=40/\b.heat.size<=40/\b.defects.length<=10
noncomputable def fewE(e:Event):Prop:=(e.cuts.length<=12/\e.rests.length<=8/\e.text.size<=40/\xY e.sheet/\aJ9 e.bar)/\∀c∈e.cuts,c.part.size<=40
noncomputable def fewL(l:List Event)(n:Int):Prop:=(∀e∈l,fewE e)/\(l.length:Int)<=n
theorem bR9(s:Sh)(hs:aV5 s):Sp 133 [shV s] (DB (fewS s)):=by
 refine zsp Tryz.func133 ?_
 obtain⟨hs1,hs2,hs3⟩:=hs
 have hm1:(s.outer.map vcV).length=s.outer.length:=by simp
 have hm2:(s.holes.map rgV).length=s.holes.length:=by simp
 have hr:fewS s↔s.holes.length<=3/\cntS s.outer.length s.holes<=24:=Iff.rfl
 generalize fewS s=P at*
 repeat' ((conv=>whnf);first|refine zg ?_)
 refine aU (A:=List Rg) (B:=List Rg) (fun D R=>mkSt [(1, .box 1 0),(3,I (cntS s.outer.length D)),(4,I D.length)] [(1,(shV s).cells)] []) (fun D R=>s.holes=D++R) (fun D R=>R.length) [] s.holes ?_ rfl (fun D R hp=>?_)
 ·show Le _ _ (mkSt [(1, .box 1 0),(3,I (s.outer.length:Int)),(4,I 0)] [(1,(shV s).cells)] [])
  rw[<-hm1]
  exact zj
 cases R with
 |cons h R=>
  have e0:=dP1 s.outer.length D
  generalize cntS (s.outer.length:Int) D=n at*
  have hlen:=aO hp
  have hhl:h.length<=9223372036854775807:=hs3 h (by rw[hp];simp)
  have hhm:(h.map vcV).length=h.length:=by simp
  have e1:=e0 h
  repeat' ((conv=>whnf);first|(exfalso;omega)|refine aB (l:=s.holes) (by omega) ?_|refine aF (l:=s.holes) (A:=D) (x:=h) (B:=R) hp (by omega) ?_|refine zg ?_|refine za ?_|refine zw ?_|refine zz (fun _=>?_) fun _=>?_)
  all_goals conv=>whnf
  refine⟨(D++[h],R),?_,by rw[hp];simp,by simp⟩
  simp only[List.length_append,List.length_singleton,e1]
  rw[<-hhm]
  show Le _ _ (mkSt [(1, .box 1 0),(3,I (W (n+((h.map vcV).length:Int)))),(4,I ((D.length:Int)+1))] [(1,(shV s).cells)] [])
  exact zj
 |nil=>
  have hlen:s.holes.length=D.length:=by rw[hp];simp
  have e:s.holes=D:=by rw[hp];simp
  have hc:cntS (s.outer.length:Int) s.holes=cntS (s.outer.length:Int) D:=by rw[e]
  rw[hc]at hr
  generalize cntS (s.outer.length:Int) D=n at*
  clear hp e hc
  repeat' ((conv=>whnf);first|(exfalso;omega)|refine zg ?_|refine zz (fun _=>?_) fun _=>?_|refine zr ?_)
  all_goals conv=>whnf
  ·exact aA (le_dec ⟨fun h=>hr.2 ⟨by omega,h⟩,fun h=>(hr.1 h).2⟩)
  ·exact aA (aC fun h=>by have:=(hr.1 h).1;omega)
theorem bM5(s:jL)(hs:aA4 s):Sp 52 [zJ s] (DB (xY s)):=by
 refine zsp Tryz.func52 ?_
 obtain⟨hs1,hs2,hs3⟩:=hs
 have hm1:(s.defects.map shV).length=s.defects.length:=by simp
 have hr:xY s↔(∀d∈s.defects,fewS d)/\s.grade.size<=40/\s.heat.size<=40/\s.defects.length<=8/\fewS s.shape:=Iff.rfl
 have h1:=bR9 s.shape hs1
 generalize xY s=P at*
 generalize fewS s.shape=p1 at*
 repeat' ((conv=>whnf);first|refine zg ?_)
 refine aU (A:=List Sh) (B:=List Sh) (fun D R=>mkSt [(1, .box 1 0),(3,I D.length)] [(1,aA7 s)] []) (fun D R=>s.defects=D++R/\∀d∈D,fewS d) (fun D R=>R.length) [] s.defects ?_ ⟨rfl,by simp⟩ (fun D R hp=>?_)
 ·exact zj
 obtain⟨hp,hD⟩:=hp
 cases R with
 |cons d R=>
  have hlen:=aO hp
  have hdm:d∈s.defects:=by rw[hp];simp
  have g1:=bR9 d (hs3 d hdm)
  have hq:fewS d↔fewS d:=Iff.rfl
  generalize hQ:fewS d=q1 at*
  repeat' ((conv=>whnf);first|(exfalso;omega)|refine aB (l:=s.defects) (by omega) ?_|refine aF (l:=s.defects) (A:=D) (x:=d) (B:=R) hp (by omega) ?_|refine zc g1 ?_|refine zg ?_|refine za ?_|refine zn ?_|refine zz (fun _=>?_) fun _=>?_|refine zr ?_)
  all_goals conv=>whnf
  all_goals first
   |exact aA (aC fun h=>absurd ((hr.1 h).1 d hdm) (by rw[hQ];assumption))
   |skip
  refine⟨(D++[d],R),?_,⟨by rw[hp];simp,fun z hz=>?_⟩,by simp⟩
  ·simp only[List.length_append,List.length_singleton]
   exact zj
  ·rcases List.mem_append.1 hz with hz|hz
   ·exact hD z hz
   ·rw[List.mem_singleton.1 hz,hQ];assumption
 |nil=>
  have hlen:s.defects.length=D.length:=by rw[hp];simp
  have hA:∀d∈s.defects,fewS d:=fun d h=>hD d (by rw[hp,List.append_nil]at h;exact h)
  clear hp hD
  repeat' ((conv=>whnf);first|(exfalso;omega)|refine zc h1 ?_|refine zg ?_|refine zz (fun _=>?_) fun _=>?_|refine zr ?_)
  all_goals conv=>whnf
  all_goals first
   |exact aA (aC fun h=>by have:=(hr.1 h).2;omega)
   |exact aA (fQ ⟨fun h=>hr.2 ⟨hA,by omega,by omega,by omega,h⟩,fun h=>(hr.1 h).2.2.2.2⟩)
theorem aT9(b:Bar):Sp 26 [barV b] (DB (aJ9 b)):=by
 refine zsp Tryz.func26 ?_
 have hm1:(b.defects.map ivV).length=b.defects.length:=by simp
 have hr:aJ9 b↔b.grade.size<=40/\b.heat.size<=40/\b.defects.length<=10:=Iff.rfl
 generalize aJ9 b=P at*
 repeat' ((conv=>whnf);first|refine zg ?_|refine zz (fun _=>?_) fun _=>?_|refine zr ?_)
 all_goals conv=>whnf
 all_goals first
  |exact aA (aC fun h=>by have:=(hr.1 h);omega)
  |exact aA (le_dec ⟨fun h=>hr.2 ⟨by omega,by omega,by omega⟩,fun h=>by have:=(hr.1 h).2.2;omega⟩)
theorem aS2(l:List Event)(n:Int)(hl:l.length<=9223372036854775807)(hb:∀e∈l,bI1 e):Sp 13 [.sl (l.map aS),I n] (DB (fewL l n)):=by
 refine zsp Tryz.func13 ?_
 have hm:(l.map aS).length=l.length:=by simp
 have hr:fewL l n↔(∀e∈l,fewE e)/\(l.length:Int)<=n:=Iff.rfl
 generalize fewL l n=P at*
 repeat' ((conv=>whnf);first|refine zg ?_)
 refine aU (A:=List Event) (B:=List Event) (fun D R=>mkSt [(0, .sl (l.map aS)),(1,I n),(5,I D.length)] [] []) (fun D R=>l=D++R/\∀d∈D,fewE d) (fun D R=>R.length) [] l ?_ ⟨rfl,by simp⟩ (fun D R hp=>?_)
 ·exact zj
 obtain⟨hp,hD⟩:=hp
 cases R with
 |cons e R=>
  have hlen:=aO hp
  have hdm:e∈l:=by rw[hp];simp
  obtain⟨b1,b2,b3,b4⟩:=hb e hdm
  have g1:=bM5 e.sheet b1
  have g2:=aT9 e.bar
  have hc1:(e.cuts.map dK).length=e.cuts.length:=by simp
  have hc2:(e.rests.map bY).length=e.rests.length:=by simp
  have hq:fewE e↔(e.cuts.length<=12/\e.rests.length<=8/\e.text.size<=40/\xY e.sheet/\aJ9 e.bar)/\∀c∈e.cuts,c.part.size<=40:=Iff.rfl
  have hPe:P->fewE e:=fun h=>(hr.1 h).1 e hdm
  have hD2:fewE e->∀d∈D++[e],fewE d:=fun h d hd=>by
   rcases List.mem_append.1 hd with hd|hd
   ·exact hD d hd
   ·rw[List.mem_singleton.1 hd];exact h
  generalize fewE e=Q at*
  generalize xY e.sheet=q1 at*
  generalize aJ9 e.bar=q2 at*
  repeat' ((conv=>whnf);first|(exfalso;omega)|refine aB (l:=l) (by omega) ?_|refine aF (l:=l) (A:=D) (x:=e) (B:=R) hp (by omega) ?_|refine zc g1 ?_|refine zc g2 ?_|refine zg ?_|refine zn ?_|refine zd (fun hd=>?_) (fun hd=>?_)|refine zl (fun hlt=>?_) (fun hlt=>?_)|refine zr ?_)
  all_goals conv=>whnf
  all_goals first
   |exact aA (aC fun h=>by have:=(hq.1 (hPe h)).1;omega)
   |exact aA (aC fun h=>absurd (hq.1 (hPe h)).1.2.2.2.1 (by assumption))
   |exact aA (aC fun h=>absurd (hq.1 (hPe h)).1.2.2.2.2 (by assumption))
   |skip
  refine aU (A:=List Made) (B:=List Made) (fun E S=>mkSt [(0, .sl (l.map aS)),(1,I n),(5,I D.length),(6,I E.length)] [] []) (fun E S=>e.cuts=E++S/\∀c∈E,c.part.size<=40) (fun E S=>S.length) [] e.cuts ?_ ⟨rfl,by simp⟩ (fun E S hs=>?_)
  ·exact zj
  obtain⟨hs,hE⟩:=hs
  cases S with
  |cons c S=>
   have hlen2:=aO hs
   have hcm:c∈e.cuts:=by rw[hs];simp
   repeat' ((conv=>whnf);first|(exfalso;omega)|refine aB (l:=l) (by omega) ?_|refine aB (l:=e.cuts) (by omega) ?_|refine aF (l:=l) (A:=D) (x:=e) (B:=R) hp (by omega) ?_|refine aF (l:=e.cuts) (A:=E) (x:=c) (B:=S) hs (by omega) ?_|refine zg ?_|refine za ?_|refine zl (fun hlt=>?_) (fun hlt=>?_)|refine zr ?_)
   all_goals conv=>whnf
   all_goals first
    |exact aA (aC fun h=>by have:=(hq.1 (hPe h)).2 c hcm;omega)
    |skip
   refine⟨(E++[c],S),?_,⟨by rw[hs];simp,fun z hz=>?_⟩,by simp⟩
   ·simp only[List.length_append,List.length_singleton]
    exact zj
   ·rcases List.mem_append.1 hz with hz|hz
    ·exact hE z hz
    ·rw[List.mem_singleton.1 hz];omega
  |nil=>
   have hlen2:e.cuts.length=E.length:=by rw[hs];simp
   have hA:∀c∈e.cuts,c.part.size<=40:=fun c h=>hE c (by rw[hs,List.append_nil]at h;exact h)
   clear hs hE
   repeat' ((conv=>whnf);first|(exfalso;omega)|refine aB (l:=l) (by omega) ?_|refine aF (l:=l) (A:=D) (x:=e) (B:=R) hp (by omega) ?_|refine zg ?_|refine za ?_|refine zl (fun hlt=>?_) (fun hlt=>?_))
   all_goals conv=>whnf
   refine⟨(D++[e],R),?_,⟨by rw[hp];simp,hD2 (hq.2 ⟨⟨by omega,by omega,by omega,by assumption,by assumption⟩,hA⟩)⟩,by simp⟩
   simp only[List.length_append,List.length_singleton]
   exact zj
 |nil=>
  have hlen:l.length=D.length:=by rw[hp];simp
  have hA:∀d∈l,fewE d:=fun d h=>hD d (by rw[hp,List.append_nil]at h;exact h)
  clear hp hD
  repeat' ((conv=>whnf);first|(exfalso;omega)|refine zg ?_|refine zl (fun hlt=>?_) (fun hlt=>?_)|refine zr ?_)
  all_goals conv=>whnf
  exact aA (le_dec ⟨fun h=>hr.2 ⟨hA,by omega⟩,fun h=>by have:=(hr.1 h).2;omega⟩)
end Go.Proofs.Led
namespace Go.Proofs.YtkhhdojgbkophaaGreat
open Go.ChangeShapes Go.WideShapes Go.ChangeAt Go.RowKit Go.Ab Go.Proofs.Led
theorem own:ownKnob Tryz.prog.godebug=none:=by kernel_rfl
theorem laidOut:laidOutB Tryz.prog=true:=by kernel_rfl
abbrev Q3:List V->Prop:=QInt .i64 (-9223372036854775808) 9223372036854775807
theorem d3(W:World):Dec Tryz.prog W (bQ W) 3 Q3:=dI6 (k:= .i64) (by kernel_rfl) (by kernel_rfl) (fun n h=>by
 simp[Lit.wf,IntKind.min,IntKind.max,IntKind.signed,IntKind.bits]at h;omega)
abbrev Q9:List V->Prop:=QStr
theorem d9(W:World):Dec Tryz.prog W (bQ W) 9 Q9:=eO8 (by kernel_rfl) (by kernel_rfl)
abbrev Q76:List V->Prop:=QAll [Q3,Q3]
theorem d76(W:World):Dec Tryz.prog W (bQ W) 76 Q76:=lZ Tryz.underlying76 (aY rfl (d3 W) (aY (by kernel_rfl) (d3 W) (mM (by kernel_rfl))))
abbrev Q39:List V->Prop:=zI true Q76
theorem d39(W:World):Dec Tryz.prog W (bQ W) 39 Q39:=pV true (by kernel_rfl) (by kernel_rfl) (d76 W) (by decide+kernel) (fun h=>by cases h) (jZ W)
abbrev Q40:List V->Prop:=zI false Q39
theorem d40(W:World):Dec Tryz.prog W (bQ W) 40 Q40:=pV false (by kernel_rfl) (by kernel_rfl) (d39 W) (by decide+kernel) (fun _=>by kernel_rfl) (jZ W)
abbrev Q42:List V->Prop:=QAll [Q39,Q40]
theorem d42(W:World):Dec Tryz.prog W (bQ W) 42 Q42:=lZ Tryz.underlying42 (aY rfl (d39 W) (aY (by kernel_rfl) (d40 W) (mM (by kernel_rfl))))
abbrev Q43:List V->Prop:=zI true Q42
theorem d43(W:World):Dec Tryz.prog W (bQ W) 43 Q43:=pV true (by kernel_rfl) (by kernel_rfl) (d42 W) (by decide+kernel) (fun h=>by cases h) (jZ W)
abbrev Q45:List V->Prop:=QAll [Q3,Q9,Q9,Q3,Q42,Q43]
theorem d45(W:World):Dec Tryz.prog W (bQ W) 45 Q45:=lZ Tryz.underlying45 (aY rfl (d3 W) (aY (by kernel_rfl) (d9 W) (aY (by kernel_rfl) (d9 W) (aY (by kernel_rfl) (d3 W) (aY (by kernel_rfl) (d42 W) (aY (by kernel_rfl) (d43 W) (mM (by kernel_rfl))))))))
abbrev Q28:List V->Prop:=QAll [Q3,Q3]
theorem d28(W:World):Dec Tryz.prog W (bQ W) 28 Q28:=dN6 (m:=2) (e:=3) (by kernel_rfl) (aY (by kernel_rfl) (d3 W) (aY (by kernel_rfl) (d3 W) (mM (by kernel_rfl))))
abbrev Q46:List V->Prop:=zI true Q28
theorem d46(W:World):Dec Tryz.prog W (bQ W) 46 Q46:=pV true (by kernel_rfl) (by kernel_rfl) (d28 W) (by decide+kernel) (fun h=>by cases h) (jZ W)
abbrev Q48:List V->Prop:=QAll [Q3,Q9,Q9,Q3,Q46]
theorem d48(W:World):Dec Tryz.prog W (bQ W) 48 Q48:=lZ Tryz.underlying48 (aY rfl (d3 W) (aY (by kernel_rfl) (d9 W) (aY (by kernel_rfl) (d9 W) (aY (by kernel_rfl) (d3 W) (aY (by kernel_rfl) (d46 W) (mM (by kernel_rfl)))))))
abbrev Q129:List V->Prop:=QAll [Q3,Q9,Q3]
theorem d129(W:World):Dec Tryz.prog W (bQ W) 129 Q129:=lZ Tryz.underlying129 (aY rfl (d3 W) (aY (by kernel_rfl) (d9 W) (aY (by kernel_rfl) (d3 W) (mM (by kernel_rfl)))))
abbrev Q54:List V->Prop:=zI true Q129
theorem d54(W:World):Dec Tryz.prog W (bQ W) 54 Q54:=pV true (by kernel_rfl) (by kernel_rfl) (d129 W) (by decide+kernel) (fun h=>by cases h) (jZ W)
abbrev Q78:List V->Prop:=QAll [Q76,Q76]
theorem d78(W:World):Dec Tryz.prog W (bQ W) 78 Q78:=lZ Tryz.underlying78 (aY rfl (d76 W) (aY (by kernel_rfl) (d76 W) (mM (by kernel_rfl))))
abbrev Q137:List V->Prop:=QAll [Q3,Q78,Q3,Q3]
theorem d137(W:World):Dec Tryz.prog W (bQ W) 137 Q137:=lZ Tryz.underlying137 (aY rfl (d3 W) (aY (by kernel_rfl) (d78 W) (aY (by kernel_rfl) (d3 W) (aY (by kernel_rfl) (d3 W) (mM (by kernel_rfl))))))
abbrev Q55:List V->Prop:=zI true Q137
theorem d55(W:World):Dec Tryz.prog W (bQ W) 55 Q55:=pV true (by kernel_rfl) (by kernel_rfl) (d137 W) (by decide+kernel) (fun h=>by cases h) (jZ W)
abbrev Q57:List V->Prop:=QAll [Q3,Q3,Q9,Q45,Q48,Q54,Q55,Q3]
theorem d57(W:World):Dec Tryz.prog W (bQ W) 57 Q57:=lZ Tryz.underlying57 (aY rfl (d3 W) (aY (by kernel_rfl) (d3 W) (aY (by kernel_rfl) (d9 W) (aY (by kernel_rfl) (d45 W) (aY (by kernel_rfl) (d48 W) (aY (by kernel_rfl) (d54 W) (aY (by kernel_rfl) (d55 W) (aY (by kernel_rfl) (d3 W) (mM (by kernel_rfl))))))))))
abbrev Q22:List V->Prop:=zI true Q57
theorem d22(W:World):Dec Tryz.prog W (bQ W) 22 Q22:=pV true (by kernel_rfl) (by kernel_rfl) (d57 W) (by decide+kernel) (fun h=>by cases h) (jZ W)
abbrev Q5:List V->Prop:=QInt .u8 (0) 255
theorem d5(W:World):Dec Tryz.prog W (bQ W) 5 Q5:=dI6 (k:= .u8) (by kernel_rfl) (by kernel_rfl) (fun n h=>by
 simp[Lit.wf,IntKind.min,IntKind.max,IntKind.signed,IntKind.bits]at h;omega)
abbrev Q73:List V->Prop:=zI false Q5
theorem uO{α:Type}{f:α->V}{Q:List V->Prop}{P:α->Prop}(h:∀xs,Q xs->∃a,V.agg xs=f a/\P a):∀ {l:List V},(∀x∈l,Q x.cells/\(true=true->∃ys,x= .agg ys)/\(true=false->∀ys,x≠ .agg ys))->∃l':List α,l=l'.map f/\∀a∈l',P a
 | [],_=>⟨[],rfl,by simp⟩
 |x::l,hl=>by
  obtain⟨h1,h2,_⟩:=hl x (by simp)
  obtain⟨ys,rfl⟩:=h2 rfl
  obtain⟨m,hm,hp⟩:=h ys h1
  obtain⟨l',rfl,hl'⟩:=uO h (l:=l) (fun y hy=>hl y (by simp[hy]))
  refine⟨m::l',by rw[List.map_cons,<-hm],fun z hz=>?_⟩
  rcases List.mem_cons.1 hz with rfl|hz
  ·exact hp
  ·exact hl' z hz
theorem cF8{α:Type}{f:α->V}{Q:List V->Prop}{P:α->Prop}(h:∀xs,Q xs->∃a,xs=[f a]/\P a):∀ {l:List V},(∀x∈l,Q x.cells/\(false=true->∃ys,x= .agg ys)/\(false=false->∀ys,x≠ .agg ys))->∃l':List α,l=l'.map f/\∀a∈l',P a
 | [],_=>⟨[],rfl,by simp⟩
 |x::l,hl=>by
  obtain⟨h1,_,h2⟩:=hl x (by simp)
  obtain⟨m,hm,hp⟩:=h _ h1
  obtain⟨l',rfl,hl'⟩:=cF8 h (l:=l) (fun y hy=>hl y (by simp[hy]))
  have hx:x=f m:=by
   cases x with
   |agg ys=>exact(h2 rfl ys rfl).elim
   |_=>simp only[V.cells,List.cons.injEq,and_true]at hm;exact hm
  refine⟨m::l',by rw[List.map_cons,<-hx],fun z hz=>?_⟩
  rcases List.mem_cons.1 hz with rfl|hz
  ·exact hp
  ·exact hl' z hz
theorem max6{n:Nat}(h:n<=maxLen):n<=9223372036854775807:=by unfold maxLen at h;omega
theorem vc_of(xs:List V)(h:Q76 xs):∃a:Vc,V.agg xs=vcV a/\True:=by
 obtain⟨_,_,rfl,⟨a,rfl,ra⟩,_,_,rfl,⟨b,rfl,rb⟩,rfl⟩:=h
 exact⟨(a,b),rfl,trivial⟩
theorem rg_of(xs:List V)(h:Q39 xs):∃a:Rg,xs=[rgV a]/\Len6 a:=by
 obtain⟨l,rfl,hl,h⟩:=h
 obtain⟨l',rfl,_⟩:=uO vc_of h
 exact⟨l',rfl,by simpa using max6 hl⟩
theorem eZ3(xs:List V)(h:Q40 xs):∃a:List Rg,xs=[.sl (a.map rgV)]/\Len6 a/\∀r∈a,Len6 r:=by
 obtain⟨l,rfl,hl,h⟩:=h
 obtain⟨l',rfl,h'⟩:=cF8 rg_of h
 exact⟨l',rfl,by simpa using max6 hl,h'⟩
theorem eT9(xs:List V)(h:Q42 xs):∃a:Sh,V.agg xs=shV a/\aV5 a:=by
 obtain⟨x1,x2,rfl,h1,x3,x4,rfl,h2,rfl⟩:=h
 obtain⟨o,rfl,ho⟩:=rg_of _ h1
 obtain⟨q,rfl,hq,hr⟩:=eZ3 _ h2
 exact⟨⟨o,q⟩,rfl,ho,hq,hr⟩
theorem eY8(xs:List V)(h:Q43 xs):∃a:List Sh,xs=[.sl (a.map shV)]/\Len6 a/\∀r∈a,aV5 r:=by
 obtain⟨l,rfl,hl,h⟩:=h
 obtain⟨l',rfl,h'⟩:=uO eT9 h
 exact⟨l',rfl,by simpa using max6 hl,h'⟩
theorem eF9(xs:List V)(h:Q45 xs):∃a:jL,xs=aA7 a/\aA4 a:=by
 obtain⟨_,_,rfl,⟨i,rfl,_⟩,_,_,rfl,⟨g,rfl,_⟩,_,_,rfl,⟨t,rfl,_⟩,_,_,rfl,⟨n,rfl,_⟩,x1,_,rfl,h1,x2,_,rfl,h2,rfl⟩:=h
 obtain⟨s,hs,hb⟩:=eT9 _ h1
 obtain⟨d,rfl,hd,he⟩:=eY8 _ h2
 have hx:x1=[rgV s.outer, .sl (s.holes.map rgV)] :=V.agg.inj hs
 subst hx
 exact⟨⟨i,g,t,n,s,d⟩,rfl,hb,hd,he⟩
theorem iv_of(xs:List V)(h:Q28 xs):∃a:Iv,V.agg xs=ivV a/\True:=by
 obtain⟨_,_,rfl,⟨a,rfl,ra⟩,_,_,rfl,⟨b,rfl,rb⟩,rfl⟩:=h
 exact⟨(a,b),rfl,trivial⟩
theorem eY4(xs:List V)(h:Q48 xs):∃a:Bar,xs=barC a/\Len6 a.defects:=by
 obtain⟨_,_,rfl,⟨i,rfl,_⟩,_,_,rfl,⟨g,rfl,_⟩,_,_,rfl,⟨t,rfl,_⟩,_,_,rfl,⟨n,rfl,_⟩,x2,_,rfl,⟨l,rfl,hl,h2⟩,rfl⟩:=h
 obtain⟨d,rfl,_⟩:=uO iv_of h2
 exact⟨⟨i,g,t,n,d⟩,rfl,by simpa using max6 hl⟩
theorem eR2(xs:List V)(h:Q129 xs):∃a:Made,V.agg xs=dK a/\True:=by
 obtain⟨_,_,rfl,⟨a,rfl,ra⟩,_,_,rfl,⟨b,rfl,rb⟩,_,_,rfl,⟨c,rfl,rc⟩,rfl⟩:=h
 exact⟨⟨a,b,c⟩,rfl,trivial⟩
theorem rest_of(xs:List V)(h:Q137 xs):∃a:Led.Rest,V.agg xs=bY a/\True:=by
 obtain⟨_,_,rfl,⟨a,rfl,ra⟩,_,_,rfl,⟨_,_,rfl,⟨_,_,rfl,⟨b,rfl,rb⟩,_,_,rfl,⟨c,rfl,rc⟩,rfl⟩,_,_,rfl,⟨_,_,rfl,⟨d,rfl,rd⟩,_,_,rfl,⟨e,rfl,re⟩,rfl⟩,rfl⟩,_,_,rfl,⟨f,rfl,rf⟩,_,_,rfl,⟨g,rfl,rg⟩,rfl⟩:=h
 exact⟨⟨a,((b,c),(d,e)),f,g⟩,rfl,trivial⟩
theorem ev_of(xs:List V)(h:Q57 xs):∃a:Led.Event,V.agg xs=aS a/\bI1 a:=by
 obtain⟨_,_,rfl,⟨k,rfl,_⟩,_,_,rfl,⟨i,rfl,_⟩,_,_,rfl,⟨t,rfl,_⟩,x1,_,rfl,h1,x2,_,rfl,h2,_,_,rfl,⟨l1,rfl,b1,q1⟩,_,_,rfl,⟨l2,rfl,b2,q2⟩,_,_,rfl,⟨z,rfl,_⟩,rfl⟩:=h
 obtain⟨s,rfl,hs⟩:=eF9 _ h1
 obtain⟨b,rfl,hb⟩:=eY4 _ h2
 obtain⟨c,rfl,_⟩:=uO eR2 q1
 obtain⟨r,rfl,_⟩:=uO rest_of q2
 exact⟨⟨k,i,t,s,b,c,r,z⟩,rfl,hs,hb,by simpa using max6 b1,by simpa using max6 b2⟩
theorem cC1{l:List V}(h:∀x∈l,Q57 x.cells/\(true=true->∃ys,x= .agg ys)/\(true=false->∀ys,x≠ .agg ys)):∃l':List Led.Event,l=l'.map aS/\∀a∈l',bI1 a:=uO ev_of h
end Go.Proofs.YtkhhdojgbkophaaGreat
namespace Go.Proofs.Led
open Go Go.Proofs Go.Ab
set_option maxRecDepth 100000
set_option maxHeartbeats 4000000
def awB:Bar:=⟨1,chB 115,chB 104,100,[]⟩
def awR:Rest:=⟨4,bx0,75,100⟩
def awX:Event:=xC 1 [⟨2,chB 97,40⟩,⟨3,chB 97,30⟩] [awR] 5
def awL:List Event:=[nD awB,uX 1 (chB 112),awX]
theorem fB9:fM awB:=⟨⟨show(1:Int)<=1 by decide,show(1:Int)<=1000000 by decide,yM (by decide),yM (by decide)⟩,show(1:Int)<=100 by decide,show(100:Int)<=2000 by decide,Nat.zero_le 6,trivial⟩
theorem dH6:iG (barS awB (chB 112)) awR=0:=by
 unfold iG
 rw[if_neg (by show¬true=false;decide),if_neg (by show¬bx0≠bx0;simp),if_neg (by show¬((75:Int)<0\/(100:Int)<=75\/(100:Int)<100);decide)]
theorem bI7:cZ (barS awB (chB 112)) [] awX.rests=0:=by
 show cZ (barS awB (chB 112)) [] [awR] =0
 unfold cZ
 rw[if_neg (Classical.not_not.2 dH6),if_neg (by simp)]
 rfl
theorem cK1:dZ (barS awB (chB 112)) awR=⟨true,dN,⟨4,chB 115,chB 104,25,[]⟩,aI⟩:=by
 unfold dZ
 rw[if_neg (by show¬true=false;decide),if_pos dH6]
 have:W (awR.hi-awR.lo)=25:=by decide
 rw[this]
 rfl
theorem eP2:nJ (barS awB (chB 112)) awX=awX.scrap:=by
 unfold nJ
 have e1:eG (barS awB (chB 112)) awX.rests=[⟨true,dN,⟨4,chB 115,chB 104,25,[]⟩,aI⟩] :=by
  rw[mV bI7]
  show [dZ (barS awB (chB 112)) awR] =_
  rw[cK1]
 rw[e1]
 show subL (subL 100 [40,30]) [25] =5
 rw[aC6 [40,30] 100 (by unfold R6;omega) (by omega) (by intro c hc;simp at hc;omega) (by decide)]
 rw[show(100:Int)- [40,30].sum=30 by decide,aC6 [25] 30 (by unfold R6;omega) (by omega) (by intro c hc;simp at hc;omega) (by decide)]
 decide
theorem dQ9:iD awX:=by
 refine aK5 (fun c hc=>?_) (fun r hr=>?_) (by show(2:Nat)<=60;decide) (by show(1:Nat)<=6;decide) (by decide)
 ·simp only[List.mem_cons,List.not_mem_nil,or_false]at hc
  rcases hc with rfl|rfl
  ·exact⟨⟨show(1:Int)<=2 by decide,show(2:Int)<=1000000 by decide⟩,yM (by decide),show(1:Int)<=40 by decide⟩
  ·exact⟨⟨show(1:Int)<=3 by decide,show(3:Int)<=1000000 by decide⟩,yM (by decide),show(1:Int)<=30 by decide⟩
 ·rw[List.mem_singleton.1 hr]
  exact⟨⟨show(1:Int)<=4 by decide,show(4:Int)<=1000000 by decide⟩, .inl rfl⟩
theorem eF1:dP [awB.id] (fO awX):=by
 rw[qJ]
 show(∀n∈([2,3,4] :List Int),n∉([1] :List Int))/\([2,3,4] :List Int).Pairwise (·≠·)
 exact⟨by decide,by decide⟩
theorem eX6:∃q ps u r c,kL inv0 0 awL=(⟨[q],ps,u,r,c⟩,3,0)/\q.bar.length=25/\ps.length=2/\c.2=5/\Good ⟨[q],ps,u,r,c⟩ 1000:=by
 have hp:iM (chB 112):=yM (by decide)
 obtain⟨r1,r2,r3,r4⟩:=dH7 fB9 hp dQ9 rfl rfl eF1 bI7 eP2
 have gd:Good (cut5 (st2 awB (chB 112)) awX 0 (barS awB (chB 112))) 1000:=by
  have q1:=good_step (e:=nD awB) cN2 (by rw[r2])
  rw[r2]at q1
  have q2:=good_step (e:=uX awB.id (chB 112)) q1 (by rw[r3])
  rw[r3]at q2
  have q3:=good_step (e:=awX) q2 (by rw[r4])
  rw[r4]at q3
  exact q3.mono (by show 0+1+1+(1+2+1)<=1000;decide)
 have hst:(cut5 (st2 awB (chB 112)) awX 0 (barS awB (chB 112))).stocks=[dZ (barS awB (chB 112)) awR] :=by
  rw[aF7,mV bI7]
  rfl
 have hpl:(cut5 (st2 awB (chB 112)) awX 0 (barS awB (chB 112))).pieces.length=2:=by
  rw[aG4]
  have key:∀(xs l:List Piece),(xs.foldl (putK Piece.id) l).length=l.length+xs.length:=by
   intro xs
   induction xs with
   |nil=>intro l;simp
   |cons x xs ih=>
    intro l
    rw[List.foldl_cons,ih,show(putK Piece.id l x).length=l.length+1 from mQ,List.length_cons]
    omega
  rw[key]
  rfl
 have hsc:(cut5 (st2 awB (chB 112)) awX 0 (barS awB (chB 112))).scrap.2=5:=by
  show W (0+5)=5
  decide
 have r1':kL inv0 0 awL=(cut5 (st2 awB (chB 112)) awX 0 (barS awB (chB 112)),3,0):=r1
 generalize cut5 (st2 awB (chB 112)) awX 0 (barS awB (chB 112))=s at*
 obtain⟨ss,ps,u,r,c⟩:=s
 simp only at hst hpl hsc
 subst hst
 exact⟨_,ps,u,r,c,r1',by rw[cK1],hpl,hsc,gd⟩
end Go.Proofs.Led
namespace Go.Proofs.Led
open Go Go.Proofs Go.Ab
set_option maxRecDepth 100000
set_option maxHeartbeats 8000000
theorem DB_t{p:Prop}(h:p):DB p= .lit (.bool true):=congrArg (fun b=>V.lit (.bool b)) (dH.2 h)
theorem DB_f{p:Prop}(h:¬p):DB p= .lit (.bool false):=congrArg (fun b=>V.lit (.bool b)) (dW.2 h)
theorem aQ4{e:Event}(hb:bI1 e)(hf:fewE e):iY e/\e.cuts.length<=12/\e.rests.length<=8/\more e<=21:=by
 obtain⟨⟨h1,h2,h3,h4,h5⟩,h6⟩:=hf
 obtain⟨⟨⟨b1,b2,b3⟩,b4,b5⟩,b6,b7,b8⟩:=hb
 obtain⟨s1,s2,s3,s4,s5⟩:=h4
 have h1':e.cuts.length<=12:=by omega
 have h2':e.rests.length<=8:=by omega
 refine⟨⟨⟨⟨b1,?_,b3⟩,by omega,fun d hd=>⟨(b5 d hd).1,?_,(b5 d hd).2.2⟩⟩,by have:=h5.2.2;omega,by omega,by omega⟩,h1',h2',by unfold more;omega⟩
 ·have:=s5.1;omega
 ·have:=(s1 d hd).1;omega
theorem aL9{s:aJ}{n:Nat}(h:Good s n)(hn:n<=1000000):Sp 24 [invV s] (.lit (.bool true)):=by
 have g:=bN0 s (Nat.le_trans h.ok.ls hn) (Nat.le_trans h.ok.lp hn) h.ok.sz
 rw[DB_t (eZ9 h.bal)]at g
 exact g
theorem eA5:∀e∈awL,iY e:=by
 intro e he
 have he':e=nD awB\/e=uX 1 (chB 112)\/e=awX:=by simpa [awL]using he
 have f0:tN dN:=⟨⟨Nat.zero_le _,Nat.zero_le _,fun h hh=>by cases hh⟩,Nat.zero_le _,fun h hh=>by cases hh⟩
 rcases he' with rfl|rfl|rfl
 ·exact⟨f0,Nat.zero_le _,Nat.zero_le _,Nat.zero_le _⟩
 ·exact⟨f0,Nat.zero_le _,Nat.zero_le _,Nat.zero_le _⟩
 ·exact⟨f0,Nat.zero_le _,show(2:Nat)<=1000000 by decide,show(1:Nat)<=1000000 by decide⟩
noncomputable def nil1(x:V):V:=match x with
 | .lit u=>(match u with| .slice none 0 0=> .sl [] |u=> .lit u)
 |x=>x
noncomputable def nilC(x:V):V:=match x with
 | .agg xs=> .agg (mapR nil1 xs)
 |x=>x
noncomputable def nilSt(σ:St):St:=⟨fun s=>nilC (σ.env s),σ.bx,σ.ar⟩
theorem dC4{w:World}{G:Gh}{v:Value}{x:V}(h:Rv w G v x):Rv w G v (nil1 x):=by
 unfold nil1
 split
 ·rename_i u
  split
  ·rw[h.bH];exact .slN
  ·exact h
 ·exact h
theorem eM7{p:Nat->Prop}{q:Nat->Nat->Prop}{x:V}(h:x.ok p q):(nil1 x).ok p q:=by
 unfold nil1
 split
 ·split
  ·simp only[V.ok,V.okL]
  ·exact h
 ·exact h
theorem eQ8{w:World}{G:Gh}{v:Value}{x:V}(h:Rv w G v x):Rv w G v (nilC x):=by
 cases x with
 |agg xs=>
  show Rv w G v (.agg (mapR nil1 xs))
  rw[dU]
  cases h with
  |agg cs _ hl' ho hh=>
   refine .agg cs _ (by simp[hl']) ho (fun i c y hc hy=>?_)
   rw[List.getElem?_map]at hy
   cases hx:xs[i]? with
   |none=>rw[hx]at hy;cases hy
   |some z=>
    rw[hx]at hy
    cases hy
    exact dC4 (hh i c z hc hx)
 |_=>exact h
theorem dG1{p:Nat->Prop}{q:Nat->Nat->Prop}{x:V}(h:x.ok p q):(nilC x).ok p q:=by
 cases x with
 |agg xs=>
  show(V.agg (mapR nil1 xs)).ok p q
  rw[dU]
  simp only[V.ok]at h⊢
  refine aH.2 fun y hy=>?_
  obtain⟨z,hz,rfl⟩:=List.mem_map.1 hy
  exact eM7 (aH.1 h z hz)
 |_=>exact h
theorem le_nil(σ:St):Le T σ (nilSt σ):=by
 unfold Le
 intro Φ a w G inv
 exact⟨G,{inv with env:=fun s=>eQ8 (inv.env s),wfE:=fun s=>dG1 (inv.wfE s)}⟩
theorem zB:Sp 12 [] (.lit (.bool true)):=by
 refine zsp Tryz.func12 ?_
 obtain⟨q,ps,u,r,c,h1,h2,h3,h4,h5⟩:=eX6
 have g1:=vX awL eA5 (by show 1+(1+(1+2+1))<=1000000;decide) (by show 3<=1000000;decide)
 rw[h1]at g1
 change Sp _ _ (.tup [invV ⟨[q],ps,u,r,c⟩,I 3,I 0])at g1
 have g2:=aL9 h5 (by decide)
 have hm:(ps.map aZ).length=ps.length:=by simp
 repeat' ((conv=>whnf);first|(exfalso;omega)|refine bB4 (Le.trans (Le.trans (aZ8 10 rfl (.inl rfl)) (aZ8 12 rfl (.inl rfl))) (le_nil _)) ?_|refine zc g1 ?_|refine zc g2 ?_|refine dE3 _ rfl ?_|refine zg ?_|refine zo ?_|refine zz (fun _=>?_) fun _=>?_|refine zr ?_)
 all_goals conv=>whnf
 all_goals first
  |exact aK rfl
  |(exfalso;simp_all;done)
  |(exfalso;simp_all;omega)
theorem bH2{l:List Event}(h:∀e∈l,more e<=21):moreL l<=21*l.length:=by
 induction l with
 |nil=>exact Nat.le_refl 0
 |cons e l ih=>
  have h1:=ih (fun x hx=>h x (by simp[hx]))
  have h2:=h e (by simp)
  unfold moreL at*
  rw[List.map_cons,List.sum_cons,List.length_cons]
  omega
end Go.Proofs.Led
