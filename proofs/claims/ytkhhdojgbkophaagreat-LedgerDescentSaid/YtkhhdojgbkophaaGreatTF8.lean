/-
  The given statement LedgerDescent, proved for all arguments: the reading of its arguments, and the proof
-/
import Derived.Test.YtkhhdojgbkophaaGreatB41
import Derived.Test.YtkhhdojgbkophaaGreatC8
import Derived.Test.YtkhhdojgbkophaaGreatB47
set_option linter.unusedVariables false
set_option linter.unusedSimpArgs false
namespace Go.Proofs.YtkhhdojgbkophaaGreat
open Go.ChangeShapes Go.WideShapes Go.ChangeAt Go.RowKit Go.Ab Go.Proofs.Led
namespace Law8
theorem ag22:aggB (Tryz.prog.underlying 22)=false:=by kernel_rfl
theorem ce22:Tryz.prog.cellsOf 22=1:=by kernel_rfl
abbrev aC8:List V->Prop:=fun ys=>∃xs0 r0,ys=aI0 (aggB (Tryz.prog.underlying 22)) xs0::r0/\Q22 xs0/\r0=[]
theorem bF9(W:World):wE Tryz.prog T W (bQ W) aC8 [22] :=(oV (d22 W) (fun _=>ce22) vW)
theorem bJ3(ys:List V)(h:aC8 ys):Go.Ab.Spec T Tryz.prog 8 ys (.lit (.bool true)):=by
 obtain⟨xs0,r0,rfl,h0,rfl⟩:=h
 rw[ag22]
 obtain⟨l,rfl,hl,hq⟩:=h0
 obtain⟨l',rfl,hb⟩:=cC1 hq
 exact aY5 l' (by simpa using max6 hl) hb
set_option maxRecDepth 100000 in
theorem lifted(os:Os)(started:os.Started)(H:Type)(enc:TypeId×Value->H):
 ReturnsInHanded {} Tryz.checked os 8 .any (Rows.ledgerDescentSpec.pre6 enc Tryz.prog Tryz.f8 Rows.ledgerDescentRow.domain false) (Rows.ledgerDescentSpec.post enc Tryz.prog Tryz.f8 false true false false):=by
 refine returnsInHanded_of_change (C:=Tryz.checked) own started (by kernel_rfl) Tryz.func8
  (ChangeSpec.witness6 (enc:=enc) (C:=Tryz.checked) false ⟨#[], #[.slice none 0 0],[]⟩ 8 (by kernel_rfl) (by kernel_rfl) (by kernel_rfl) (by kernel_rfl)) ?_
 intro W base args ds gs before hval hW _ _
 exact tJ (T:=T) (tb:=4) laidOut rfl (fun H ds hd=>by
  match ds,hd with
  | [d1],_=>rfl) (by kernel_rfl) (by kernel_rfl) (fun t ht=>by
  rw[Tryz.params8]at ht
  simp at ht
  rcases ht with rfl<;>exact⟨by kernel_rfl,of_decide_eq_true (by kernel_rfl)⟩) (fun W=>by rw[Tryz.params8];exact bF9 W) bJ3 W base args ds gs before hval hW trivial
theorem over:Rows.ledgerDescentRow.holds Tryz.pinned (OpenSpec.ofChange Rows.ledgerDescentSpec):=
 OpenClaim.holds_of_wide 8 Tryz.f8 rfl rfl rfl rfl rfl rfl rfl ⟨rfl,rfl,rfl,rfl,rfl⟩ rfl rfl rfl rfl rfl (by kernel_rfl) Tryz.func8 closed
  (of_decide_eq_true (by kernel_rfl)) (by unfold Func.isWrapper;first|(rw[if_pos (by decide+kernel)];kernel_rfl)|(rw[if_neg (by decide+kernel)];exact⟨rfl,rfl⟩))
  (fun os started H enc _=>lifted os started H enc)
end Law8
theorem ledgerDescent_proved:Rows.LedgerDescentSaid:=Law8.over
#print axioms ledgerDescent_proved
end Go.Proofs.YtkhhdojgbkophaaGreat
