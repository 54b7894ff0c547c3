/-
  The document's example.
-/
import Derived.Test.YtdjgbagnajikeaaGreatDoorB24
import Derived.Test.YtdjgbagnajikeaaGreatDoorSHQ3
set_option linter.unusedVariables false
set_option linter.unusedSimpArgs false
set_option maxRecDepth 100000
set_option maxHeartbeats 8000000
noncomputable section
namespace Go.Proofs.Led
open Go Go.Proofs Go.Ab
theorem aw_mem{x:Node}(h:x∈awF):x=awN1 true 5\/x=awN 2 40\/x=awN 3 30\/x=awN4:=by
 unfold awF at h
 simpa using h
theorem aw_sz:SzN awF:=fun x hx=>by rcases aw_mem hx with rfl|rfl|rfl|rfl<;>decide
theorem aw_wf:WfN awF:=fun x hx=>by rcases aw_mem hx with rfl|rfl|rfl|rfl<;>exact⟨by decide,by decide⟩
theorem aw_nok:∀y∈awF,NOk y:=fun x hx=>by rcases aw_mem hx with rfl|rfl|rfl|rfl<;>exact⟨by decide,by decide,by decide,by decide,by decide,by decide,by decide⟩
theorem aw_lit:awT=ByteArray.mk #[51,32,112,97,114,116,32,97,32,115,105,122,101,32,51,48,10,49,32,98,97,114,32,115,105,122,101,32,49,48,48,32,103,114,97,100,101,32,115,32,104,101,97,116,32,104,10] :=by kernel_rfl
theorem eqOwn(a b c d e f:Int):eqT T 4 38 [I a,I b,I c] [I d,I e,I f] =some (andB (eqB a d) (andB (eqB b e) (andB (eqB c f) true))):=by kernel_rfl
theorem eqOwn_i{a b c d e f:Int}(ha:a=d)(hb:b=e)(hc:c=f){K:Bool->Prop}(h:K true):aL1.match_1 (fun _=>Prop) (eqT T 4 38 [I a,I b,I c] [I d,I e,I f]) K (fun _=>False):=by
 subst ha hb hc
 rw[eqOwn]
 have e:∀n:Int,eqB n n=true:=fun n=>aA1.2 rfl
 rw[e,e,e]
 have:andB true (andB true (andB true true))=true:=by simp[andB]
 rw[this]
 exact h
theorem awake57_vc:fnVC T Tryz.prog Tryz.f10 [] (.lit (.bool true)):=by
 have g1:=build_spec awL eA5 (by show 1+(1+(1+2+1))<=1000000;decide) (by show 3<=1000000;decide) aw_fit
 rw[aw_build]at g1
 change Sp _ _ (.tup [.own 42 (awF.map nodeV),I 3,I 0])at g1
 have g2:=pathY_spec awF 3 (awN 3 30) (by decide) aw_sz aw_right aw_get
 rw[aw_path]at g2
 change Sp _ _ (.tup [.own 3 [I 1,I 3],I 0])at g2
 have g3:=certY_spec awF 3 (awN 3 30) (by decide) aw_sz aw_right aw_get aw_nok
 rw[aw_cert]at g3
 have g4:=sumY_spec awF 1 (awN1 true 5) (by decide) aw_sz aw_wf aw_right aw_get1
 rw[aw_acc]at g4
 obtain⟨a,ha⟩:∃a:Int,a=25:=⟨_,rfl⟩
 obtain⟨b,hb⟩:∃a:Int,a=70:=⟨_,rfl⟩
 obtain⟨c,hc⟩:∃a:Int,a=5:=⟨_,rfl⟩
 replace g4:Sp 18 [.sl (awF.map nodeV),I 1] (.tup [.agg [I a,I b,I c],I 0]):=by rw[ha,hb,hc];exact g4
 have g5:=sI_spec [1,3] (by decide)
 change Sp _ [.sl [I 1,I 3], .sl [I 1,I 3]] _ at g5
 have hm:(awF.map nodeV).length=4:=rfl
 obtain⟨n,hn⟩:∃a:Int,a=3:=⟨_,rfl⟩
 obtain⟨e1,h1⟩:∃a:Int,a=0:=⟨_,rfl⟩
 obtain⟨e2,h2⟩:∃a:Int,a=0:=⟨_,rfl⟩
 obtain⟨e3,h3⟩:∃a:Int,a=0:=⟨_,rfl⟩
 obtain⟨e4,h4⟩:∃a:Int,a=0:=⟨_,rfl⟩
 replace g1:Sp 12 [.sl (awL.map aS)] (.tup [.own 42 (awF.map nodeV),I n,I e1]):=by rw[hn,h1];exact g1
 replace g2:Sp 21 [.sl (awF.map nodeV),I 3] (.tup [.own 3 [I 1,I 3],I e2]):=by rw[h2];exact g2
 replace g3:Sp 28 [.sl (awF.map nodeV),I 3] (.tup [S awT,I e3]):=by rw[h3];exact g3
 replace g4:Sp 18 [.sl (awF.map nodeV),I 1] (.tup [.agg [I a,I b,I c],I e4]):=by rw[h4];exact g4
 generalize hZ:awT=Z at g3
 generalize awF.map nodeV=F at*
 all_goals conv=>whnf
 refine eY7 ?_
 repeat' ((conv=>whnf);first
  |(exfalso;omega)
  |refine eZ1 (by kernel_rfl) ?_
  |refine eH4 (by omega) ?_
  |refine bW7 ?_
  |refine fU (p:=(T.row _).eq=true) (by kernel_rfl) ?_
  |refine fU (by omega) ?_
  |refine fU rfl ?_
  |refine eZ2 ?_
  |refine eZ0 (fun hd=>?_) (fun hd=>?_)
  |refine br_lt (fun hlt=>?_) (fun hlt=>?_)
  |refine br_le (fun hle=>?_) (fun hle=>?_)
  |refine eV7 (fun heq=>?_) (fun heq=>?_)
  |refine eQ9 (by omega) (fun x hx=>?_)
  |refine eY0 rfl (fun h=>by cases h) ?_
  |refine jU (fun hbb=>?_) (fun hbb=>?_)
  |refine ret_i ?_
  |refine fA7 ?_)
 all_goals conv=>whnf
 refine dJ4 Unit (fun _=>mkSt [(1, .sl F),(2,I n),(3,I e1)] [] []) (fun _=>True) ?_ ?_
 ·repeat' ((conv=>whnf);first
   |(exfalso;omega)
   |refine bB4 (Le.trans (Le.trans (aZ8 16 rfl (.inl rfl)) (aZ8 18 rfl (.inl rfl))) (le_nil _)) ?_
   |(refine aS5 (g1) false ?_ rfl ?_;focus ((repeat' (first|exact trivial|refine And.intro ?_ ?_|with_reducible rfl|exact(fun h=>by cases h)|exact rfl));done))
   |refine eZ1 (by kernel_rfl) ?_
   |refine eH4 (by omega) ?_
   |refine bW7 ?_
   |refine fU (p:=(T.row _).eq=true) (by kernel_rfl) ?_
   |refine fU (by omega) ?_
   |refine fU rfl ?_
   |refine eZ2 ?_
   |refine eZ0 (fun hd=>?_) (fun hd=>?_)
   |refine br_lt (fun hlt=>?_) (fun hlt=>?_)
   |refine br_le (fun hle=>?_) (fun hle=>?_)
   |refine eV7 (fun heq=>?_) (fun heq=>?_)
   |refine eQ9 (by omega) (fun x hx=>?_)
   |refine eY0 rfl (fun h=>by cases h) ?_
   |refine jU (fun hbb=>?_) (fun hbb=>?_)
   |refine ret_i ?_
   |refine fA7 ?_)
  all_goals conv=>whnf
  refine⟨(),Le.trans (fB (k:=21) rfl (.inl rfl)) ?_,trivial⟩
  refine dV ?_ ?_ ?_ ?_
  all_goals repeat' (first|exact trivial|refine And.intro ?_ ?_|with_reducible rfl|exact(fun h=>by cases h)|exact Nat.le_refl _|omega|exact rfl)
 ·intro _ _
  all_goals conv=>whnf
  refine dJ4 Unit (fun _=>mkSt [(1, .sl F),(2,I n),(3,I e1),(4, .sl [I 1,I 3]),(5,I e2)] [] []) (fun _=>True) ?_ ?_
  ·repeat' ((conv=>whnf);first
    |(exfalso;omega)
    |(refine aS5 (g2) false ?_ rfl ?_;focus ((repeat' (first|exact trivial|refine And.intro ?_ ?_|with_reducible rfl|exact(fun h=>by cases h)|exact rfl));done))
    |refine eZ1 (by kernel_rfl) ?_
    |refine eH4 (by omega) ?_
    |refine bW7 ?_
    |refine fU (p:=(T.row _).eq=true) (by kernel_rfl) ?_
    |refine fU (by omega) ?_
    |refine fU rfl ?_
    |refine eZ2 ?_
    |refine eZ0 (fun hd=>?_) (fun hd=>?_)
    |refine br_lt (fun hlt=>?_) (fun hlt=>?_)
    |refine br_le (fun hle=>?_) (fun hle=>?_)
    |refine eV7 (fun heq=>?_) (fun heq=>?_)
    |refine eQ9 (by omega) (fun x hx=>?_)
    |refine eY0 rfl (fun h=>by cases h) ?_
    |refine jU (fun hbb=>?_) (fun hbb=>?_)
    |refine ret_i ?_
    |refine fA7 ?_)
   all_goals conv=>whnf
   refine⟨(),Le.trans (fB (k:=27) rfl (.inl rfl)) ?_,trivial⟩
   refine dV ?_ ?_ ?_ ?_
   all_goals repeat' (first|exact trivial|refine And.intro ?_ ?_|with_reducible rfl|exact(fun h=>by cases h)|exact Nat.le_refl _|omega|exact rfl)
  ·intro _ _
   all_goals conv=>whnf
   refine dJ4 Unit (fun _=>mkSt [(1, .sl F),(2,I n),(3,I e1),(4, .sl [I 1,I 3]),(5,I e2),(6,S Z),(7,I e3)] [] []) (fun _=>True) ?_ ?_
   ·repeat' ((conv=>whnf);first
     |(exfalso;omega)
     |(refine aS5 (g3) false ?_ rfl ?_;focus ((repeat' (first|exact trivial|refine And.intro ?_ ?_|with_reducible rfl|exact(fun h=>by cases h)|exact rfl));done))
     |refine eZ1 (by kernel_rfl) ?_
     |refine eH4 (by omega) ?_
     |refine bW7 ?_
     |refine fU (p:=(T.row _).eq=true) (by kernel_rfl) ?_
     |refine fU (by omega) ?_
     |refine fU rfl ?_
     |refine eZ2 ?_
     |refine eZ0 (fun hd=>?_) (fun hd=>?_)
     |refine br_lt (fun hlt=>?_) (fun hlt=>?_)
     |refine br_le (fun hle=>?_) (fun hle=>?_)
     |refine eV7 (fun heq=>?_) (fun heq=>?_)
     |refine eQ9 (by omega) (fun x hx=>?_)
     |refine eY0 rfl (fun h=>by cases h) ?_
     |refine jU (fun hbb=>?_) (fun hbb=>?_)
     |refine ret_i ?_
     |refine fA7 ?_)
    all_goals conv=>whnf
    refine⟨(),?_,trivial⟩
    refine dV ?_ ?_ ?_ ?_
    all_goals repeat' (first|exact trivial|refine And.intro ?_ ?_|with_reducible rfl|exact(fun h=>by cases h)|exact Nat.le_refl _|omega|exact rfl)
   ·intro _ _
    all_goals conv=>whnf
    refine dJ4 Unit (fun _=>mkSt [(2,I n),(3,I e1),(4, .sl [I 1,I 3]),(5,I e2),(6,S Z),(7,I e3),(8, .box 8 0),(9,I e4)] [(8,[I a,I b,I c])] []) (fun _=>True) ?_ ?_
    ·repeat' ((conv=>whnf);first
      |(exfalso;omega)
      |(refine aS5 (g4) false ?_ rfl ?_;focus ((repeat' (first|exact trivial|refine And.intro ?_ ?_|with_reducible rfl|exact(fun h=>by cases h)|exact rfl));done))
      |refine eZ1 (by kernel_rfl) ?_
      |refine eH4 (by omega) ?_
      |refine bW7 ?_
      |refine fU (p:=(T.row _).eq=true) (by kernel_rfl) ?_
      |refine fU (by omega) ?_
      |refine fU rfl ?_
      |refine eZ2 ?_
      |refine eZ0 (fun hd=>?_) (fun hd=>?_)
      |refine br_lt (fun hlt=>?_) (fun hlt=>?_)
      |refine br_le (fun hle=>?_) (fun hle=>?_)
      |refine eV7 (fun heq=>?_) (fun heq=>?_)
      |refine eQ9 (by omega) (fun x hx=>?_)
      |refine eY0 rfl (fun h=>by cases h) ?_
      |refine jU (fun hbb=>?_) (fun hbb=>?_)
      |refine ret_i ?_
      |refine fA7 ?_)
     all_goals conv=>whnf
     refine⟨(),?_,trivial⟩
     refine dV ?_ ?_ ?_ ?_
     all_goals repeat' (first|exact trivial|refine And.intro ?_ ?_|with_reducible rfl|exact(fun h=>by cases h)|exact Nat.le_refl _|omega|exact rfl)
    ·intro _ _
     all_goals conv=>whnf
     all_goals conv=>whnf
     refine eY7 ?_
     all_goals conv=>whnf
     refine eV7 (fun heq=>?_) (fun heq=>absurd h1 heq)
     generalize hL:ByteArray.mk #[51,32,112,97,114,116,32,97,32,115,105,122,101,32,51,48,10,49,32,98,97,114,32,115,105,122,101,32,49,48,48,32,103,114,97,100,101,32,115,32,104,101,97,116,32,104,10] =L
     have hZL:Z=L:=hZ.symm.trans (aw_lit.trans hL)
     clear hL hZ
     repeat' ((conv=>whnf);first
      |refine eV7 (fun heq=>?_) (fun heq=>absurd h1 heq)
      |refine eV7 (fun heq=>?_) (fun heq=>absurd hn heq)
      |refine eV7 (fun heq=>?_) (fun heq=>absurd h2 heq)
      |refine eV7 (fun heq=>?_) (fun heq=>absurd h3 heq)
      |(refine aS5 (g5) true ?_ rfl ?_;focus ((repeat' (first|exact trivial|refine And.intro ?_ ?_|with_reducible rfl|exact(fun h=>by cases h)|exact rfl));done))
      |refine eY7 ?_
      |refine eZ1 (by kernel_rfl) ?_
      |refine eH4 (by omega) ?_
      |refine bW7 ?_
      |refine fU (p:=(T.row _).eq=true) (by kernel_rfl) ?_
      |refine fU (by omega) ?_
      |refine fU rfl ?_
      |refine eZ2 ?_
      |refine eZ0 (fun hd=>?_) (fun hd=>?_)
      |refine br_lt (fun hlt=>?_) (fun hlt=>?_)
      |refine br_le (fun hle=>?_) (fun hle=>?_)
      |refine eV7 (fun heq=>?_) (fun heq=>?_)
      |refine eQ9 (by omega) (fun x hx=>?_)
      |refine eY0 rfl (fun h=>by cases h) ?_
      |refine ret_i ?_
      |refine fA7 ?_)
     clear g5 g1 g2 g3 g4
     as_aux_lemma=>
      conv=>whnf
      refine jI (fun _=>?_) (fun heq=>absurd hZL heq)
      generalize eqS Z L=q
      clear hZL
      as_aux_lemma=>
       repeat' ((conv=>whnf);first
        |refine eV7 (fun heq=>?_) (fun heq=>absurd h4 heq)
        |refine eqOwn_i ha hb hc ?_
        |refine eY7 ?_
        |refine eZ1 (by kernel_rfl) ?_
        |refine eH4 (by omega) ?_
        |refine bW7 ?_
        |refine fU (p:=(T.row _).eq=true) (by kernel_rfl) ?_
        |refine fU (by omega) ?_
        |refine fU rfl ?_
        |refine eZ2 ?_
        |refine eZ0 (fun hd=>?_) (fun hd=>?_)
        |refine br_lt (fun hlt=>?_) (fun hlt=>?_)
        |refine br_le (fun hle=>?_) (fun hle=>?_)
        |refine eV7 (fun heq=>?_) (fun heq=>?_)
        |refine eQ9 (by omega) (fun x hx=>?_)
        |refine eY0 rfl (fun h=>by cases h) ?_
        |refine jU (fun hbb=>?_) (fun hbb=>?_)
        |refine ret_i ?_
        |refine fA7 ?_)
       all_goals conv=>whnf
       all_goals exact aK rfl
theorem awake57_spec:Sp 10 [] (.lit (.bool true)):=zsp Tryz.func10 (awake57_vc)
end Go.Proofs.Led
