/-
  The law of the genealogy's queries: right forests.
-/
import Derived.Test.YtdjgbagnajikeaaGreatDoorB22
set_option linter.unusedVariables false
set_option linter.unusedSimpArgs false
set_option maxRecDepth 100000
set_option maxHeartbeats 8000000
noncomputable section
namespace Go.Proofs.Led
open Go Go.Proofs Go.Ab
theorem sI_spec(L:List Int)(h:L.length<=1000000):Sp 30 [.sl (L.map I), .sl (L.map I)] (.lit (.bool true)):=by
 have:=cY1 (a:=L) (b:=L) h
 rwa [show DB (L=L)= .lit (.bool true)from congrArg (fun b=>V.lit (Value.bool b)) (dH.2 rfl)]at this
theorem heat_len(s:ByteArray)(f:List Node):(heatL s f).length<=f.length:=by
 unfold heatL
 rw[List.length_map]
 exact List.length_filter_le _ _
theorem lawGQ_M(f:List Node)(n:Int)(s:ByteArray)(haw:Sp 10 [] (.lit (.bool true)))(hl:f.length<=30)(hz:SzN f)(hf:fewF f 30)(hs:s.size<=40)(h:RightF f)(hn:getN f n=none):Sp 8 [.sl (f.map nodeV),I n,S s] (.lit (.bool true)):=by
 refine zsp Tryz.func8 ?_
 have hl':f.length<=1000000:=by omega
 have h1:=fewF_spec f 30 (by omega)
 have h2:=ownF_spec f hl'
 have hck:=rcheckM_spec f n hl' hz h hn
 have c1:=pathM_spec f n hl' hz h hn
 have c2:=rpathN_spec f n 8 (by decide) hck
 have c3:=kidsM_spec f n hl' hz h hn
 have c4:=rkidsN_spec f n 8 (by decide) hck
 have c5:=sumM_spec f n hl' hz h hn
 have c6:=rsumN_spec f n 8 (by decide) hck
 have c7:=certM_spec f n hl' hz h hn
 have c8:=rcertN_spec f n 8 (by decide) hck
 have c9:=rightG_spec f hl' hz
 have c10:=rrightF_spec f hl' hz
 have c11:=heatY_spec f s hl' hz h
 have c12:=rheatY_spec f s hl' hz h
 have c13:=sI_spec [] (by simp)
 have c14:=sI_spec (heatL s f) (Nat.le_trans (heat_len s f) hl')
 clear hck hn
 generalize heatL s f=K at*
 generalize fewF f 30=q at*
 generalize RightF f=P at*
 cases f with
 |nil=>
  unfold groNR at h2
  cases K
  all_goals unfold groR at c12
  all_goals repeat' ((conv=>whnf);first
   |(exfalso;contradiction)
   |(exfalso;omega)
   |(refine aS5 (haw) false ?_ rfl ?_;focus ((repeat' (first|exact trivial|refine And.intro ?_ ?_|with_reducible rfl|exact(fun h=>by cases h)|exact rfl));done))
   |(refine aS5 (h1) false ?_ rfl ?_;focus ((repeat' (first|exact trivial|refine And.intro ?_ ?_|with_reducible rfl|exact(fun h=>by cases h)|exact rfl));done))
   |(refine aS5 (h2) false ?_ rfl ?_;focus ((repeat' (first|exact trivial|refine And.intro ?_ ?_|with_reducible rfl|exact(fun h=>by cases h)|exact rfl));done))
   |(refine aS5 (c1) false ?_ rfl ?_;focus ((repeat' (first|exact trivial|refine And.intro ?_ ?_|with_reducible rfl|exact(fun h=>by cases h)|exact rfl));done))
   |(refine aS5 (c2) false ?_ rfl ?_;focus ((repeat' (first|exact trivial|refine And.intro ?_ ?_|with_reducible rfl|exact(fun h=>by cases h)|exact rfl));done))
   |(refine aS5 (c3) false ?_ rfl ?_;focus ((repeat' (first|exact trivial|refine And.intro ?_ ?_|with_reducible rfl|exact(fun h=>by cases h)|exact rfl));done))
   |(refine aS5 (c4) false ?_ rfl ?_;focus ((repeat' (first|exact trivial|refine And.intro ?_ ?_|with_reducible rfl|exact(fun h=>by cases h)|exact rfl));done))
   |(refine aS5 (c5) false ?_ rfl ?_;focus ((repeat' (first|exact trivial|refine And.intro ?_ ?_|with_reducible rfl|exact(fun h=>by cases h)|exact rfl));done))
   |(refine aS5 (c6) false ?_ rfl ?_;focus ((repeat' (first|exact trivial|refine And.intro ?_ ?_|with_reducible rfl|exact(fun h=>by cases h)|exact rfl));done))
   |(refine aS5 (c7) false ?_ rfl ?_;focus ((repeat' (first|exact trivial|refine And.intro ?_ ?_|with_reducible rfl|exact(fun h=>by cases h)|exact rfl));done))
   |(refine aS5 (c8) false ?_ rfl ?_;focus ((repeat' (first|exact trivial|refine And.intro ?_ ?_|with_reducible rfl|exact(fun h=>by cases h)|exact rfl));done))
   |(refine aS5 (c9) false ?_ rfl ?_;focus ((repeat' (first|exact trivial|refine And.intro ?_ ?_|with_reducible rfl|exact(fun h=>by cases h)|exact rfl));done))
   |(refine aS5 (c10) false ?_ rfl ?_;focus ((repeat' (first|exact trivial|refine And.intro ?_ ?_|with_reducible rfl|exact(fun h=>by cases h)|exact rfl));done))
   |(refine aS5 (c11) false ?_ rfl ?_;focus ((repeat' (first|exact trivial|refine And.intro ?_ ?_|with_reducible rfl|exact(fun h=>by cases h)|exact rfl));done))
   |(refine aS5 (c12) false ?_ rfl ?_;focus ((repeat' (first|exact trivial|refine And.intro ?_ ?_|with_reducible rfl|exact(fun h=>by cases h)|exact rfl));done))
   |(refine aS5 (c13) false ?_ rfl ?_;focus ((repeat' (first|exact trivial|refine And.intro ?_ ?_|with_reducible rfl|exact(fun h=>by cases h)|exact rfl));done))
   |(refine aS5 (c14) true ?_ rfl ?_;focus ((repeat' (first|exact trivial|refine And.intro ?_ ?_|with_reducible rfl|exact(fun h=>by cases h)|exact rfl));done))
   |refine eqAc_i ?_
   |refine jI (fun _=>?_) (fun heq=>absurd rfl heq)
   |refine br_BBs ?_
   |refine eY7 ?_
   |refine eZ1 (by kernel_rfl) ?_
   |refine eH4 (by omega) ?_
   |refine bW7 ?_
   |refine fU (p:=(T.row _).eq=true) (by kernel_rfl) ?_
   |refine fU (by omega) ?_
   |refine fU rfl ?_
   |refine eZ2 ?_
   |refine eZ0 (fun hd=>?_) (fun hd=>?_)
   |refine br_lt (fun hlt=>?_) (fun hlt=>?_)
   |refine br_le (fun hle=>?_) (fun hle=>?_)
   |refine eV7 (fun heq=>?_) (fun heq=>?_)
   |refine eQ9 (by omega) (fun x hx=>?_)
   |refine eY0 rfl (fun h=>by cases h) ?_
   |refine jU (fun hbb=>?_) (fun hbb=>?_)
   |refine ret_i ?_
   |refine fA7 ?_)
  all_goals conv=>whnf
  all_goals exact aK rfl
 |cons a r=>
  unfold groNR at h2
  replace h2:=own_sl h2
  cases K
  all_goals unfold groR at c12
  all_goals repeat' ((conv=>whnf);first
   |(exfalso;contradiction)
   |(exfalso;omega)
   |(refine aS5 (haw) false ?_ rfl ?_;focus ((repeat' (first|exact trivial|refine And.intro ?_ ?_|with_reducible rfl|exact(fun h=>by cases h)|exact rfl));done))
   |(refine aS5 (h1) false ?_ rfl ?_;focus ((repeat' (first|exact trivial|refine And.intro ?_ ?_|with_reducible rfl|exact(fun h=>by cases h)|exact rfl));done))
   |(refine aS5 (h2) false ?_ rfl ?_;focus ((repeat' (first|exact trivial|refine And.intro ?_ ?_|with_reducible rfl|exact(fun h=>by cases h)|exact rfl));done))
   |(refine aS5 (c1) false ?_ rfl ?_;focus ((repeat' (first|exact trivial|refine And.intro ?_ ?_|with_reducible rfl|exact(fun h=>by cases h)|exact rfl));done))
   |(refine aS5 (c2) false ?_ rfl ?_;focus ((repeat' (first|exact trivial|refine And.intro ?_ ?_|with_reducible rfl|exact(fun h=>by cases h)|exact rfl));done))
   |(refine aS5 (c3) false ?_ rfl ?_;focus ((repeat' (first|exact trivial|refine And.intro ?_ ?_|with_reducible rfl|exact(fun h=>by cases h)|exact rfl));done))
   |(refine aS5 (c4) false ?_ rfl ?_;focus ((repeat' (first|exact trivial|refine And.intro ?_ ?_|with_reducible rfl|exact(fun h=>by cases h)|exact rfl));done))
   |(refine aS5 (c5) false ?_ rfl ?_;focus ((repeat' (first|exact trivial|refine And.intro ?_ ?_|with_reducible rfl|exact(fun h=>by cases h)|exact rfl));done))
   |(refine aS5 (c6) false ?_ rfl ?_;focus ((repeat' (first|exact trivial|refine And.intro ?_ ?_|with_reducible rfl|exact(fun h=>by cases h)|exact rfl));done))
   |(refine aS5 (c7) false ?_ rfl ?_;focus ((repeat' (first|exact trivial|refine And.intro ?_ ?_|with_reducible rfl|exact(fun h=>by cases h)|exact rfl));done))
   |(refine aS5 (c8) false ?_ rfl ?_;focus ((repeat' (first|exact trivial|refine And.intro ?_ ?_|with_reducible rfl|exact(fun h=>by cases h)|exact rfl));done))
   |(refine aS5 (c9) false ?_ rfl ?_;focus ((repeat' (first|exact trivial|refine And.intro ?_ ?_|with_reducible rfl|exact(fun h=>by cases h)|exact rfl));done))
   |(refine aS5 (c10) false ?_ rfl ?_;focus ((repeat' (first|exact trivial|refine And.intro ?_ ?_|with_reducible rfl|exact(fun h=>by cases h)|exact rfl));done))
   |(refine aS5 (c11) false ?_ rfl ?_;focus ((repeat' (first|exact trivial|refine And.intro ?_ ?_|with_reducible rfl|exact(fun h=>by cases h)|exact rfl));done))
   |(refine aS5 (c12) false ?_ rfl ?_;focus ((repeat' (first|exact trivial|refine And.intro ?_ ?_|with_reducible rfl|exact(fun h=>by cases h)|exact rfl));done))
   |(refine aS5 (c13) false ?_ rfl ?_;focus ((repeat' (first|exact trivial|refine And.intro ?_ ?_|with_reducible rfl|exact(fun h=>by cases h)|exact rfl));done))
   |(refine aS5 (c14) true ?_ rfl ?_;focus ((repeat' (first|exact trivial|refine And.intro ?_ ?_|with_reducible rfl|exact(fun h=>by cases h)|exact rfl));done))
   |refine eqAc_i ?_
   |refine jI (fun _=>?_) (fun heq=>absurd rfl heq)
   |refine br_BBs ?_
   |refine eY7 ?_
   |refine eZ1 (by kernel_rfl) ?_
   |refine eH4 (by omega) ?_
   |refine bW7 ?_
   |refine fU (p:=(T.row _).eq=true) (by kernel_rfl) ?_
   |refine fU (by omega) ?_
   |refine fU rfl ?_
   |refine eZ2 ?_
   |refine eZ0 (fun hd=>?_) (fun hd=>?_)
   |refine br_lt (fun hlt=>?_) (fun hlt=>?_)
   |refine br_le (fun hle=>?_) (fun hle=>?_)
   |refine eV7 (fun heq=>?_) (fun heq=>?_)
   |refine eQ9 (by omega) (fun x hx=>?_)
   |refine eY0 rfl (fun h=>by cases h) ?_
   |refine jU (fun hbb=>?_) (fun hbb=>?_)
   |refine ret_i ?_
   |refine fA7 ?_)
  all_goals conv=>whnf
  all_goals exact aK rfl
end Go.Proofs.Led
