/-
  The given statement LedgerApply, proved for all arguments: the reading of its arguments, and the proof
-/
import Derived.Test.YtkhhdojgbkophaaGreatSC3
import Derived.Test.YtkhhdojgbkophaaGreatB27
set_option linter.unusedVariables false
set_option linter.unusedSimpArgs false
namespace Go.Proofs.YtkhhdojgbkophaaGreat
open Go.ChangeShapes Go.WideShapes Go.ChangeAt Go.RowKit Go.Ab Go.Proofs.Led
namespace Law3
theorem ag22:aggB (Tryz.prog.underlying 22)=false:=Ad
theorem ce22:Tryz.prog.cellsOf 22=1:=Ad
abbrev aC8:List V->Prop:=fun ys=>∃xs0 r0,ys=aI0 (aggB (Tryz.prog.underlying 22)) xs0::r0/\Q22 xs0/\r0=[]
theorem bF9(W:World):wE Tryz.prog T W (bQ W) aC8 [22] :=(oV (d22 W) (fun _=>ce22) vW)
theorem bJ3(ys:List V)(h:aC8 ys):Go.Ab.Spec T Tryz.prog 3 ys (.lit (.bool true)):=by
 obtain⟨xs0,r0,rfl,h0,rfl⟩:=h;rw[ag22];obtain⟨l,rfl,hl,hq⟩:=h0;obtain⟨l',rfl,hb⟩:=cC1 hq;exact fS3 l' F9 hb
set_option maxRecDepth 100000 in
theorem lifted(os:Os)(started:os.Started)(H:Type)(enc:TypeId×Value->H):
 ReturnsInHanded {} Tryz.checked os 3 .any (Rows.ledgerApplySpec.pre6 enc Tryz.prog Tryz.f3 Rows.ledgerApplyRow.domain false) (Rows.ledgerApplySpec.post enc Tryz.prog Tryz.f3 false true false false):=by
 refine returnsInHanded_of_change (C:=Tryz.checked) own started Ad Tryz.func3
  (ChangeSpec.witness6 (enc:=enc) (C:=Tryz.checked) false ⟨#[], #[.slice none 0 0],[]⟩ 8 Ad Ad Ad Ad) ?_
 intro W base args ds gs before hval hW _ _
 exact tJ (T:=T) (tb:=4) laidOut rfl (fun H ds hd=>by
  match ds,hd with
  | [d1],_=>rfl) Ad Ad (fun t ht=>by
  rw[Tryz.params3]at ht;simp at ht;rcases ht with rfl<;>exact⟨Ad,of_decide_eq_true Ad⟩) (fun W=>by rw[Tryz.params3];exact bF9 W) bJ3 W base args ds gs before hval hW trivial
theorem over:Rows.ledgerApplyRow.holds Tryz.pinned (OpenSpec.ofChange Rows.ledgerApplySpec):=
 OpenClaim.holds_of_wide 3 Tryz.f3 rfl rfl rfl rfl rfl rfl rfl ⟨rfl,rfl,rfl,rfl,rfl⟩ rfl rfl rfl rfl rfl Ad Tryz.func3 closed
  (of_decide_eq_true Ad) (by unfold Func.isWrapper;first|(rw[if_pos (by decide+kernel)];kernel_rfl)|(rw[if_neg (by decide+kernel)];exact⟨rfl,rfl⟩))
  (fun os started H enc _=>lifted os started H enc)
end Law3
theorem ledgerApply_proved:Rows.LedgerApplySaid:=Law3.over
#print axioms ledgerApply_proved
end Go.Proofs.YtkhhdojgbkophaaGreat
