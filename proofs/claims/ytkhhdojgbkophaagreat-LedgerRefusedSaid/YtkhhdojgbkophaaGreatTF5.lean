/-
  The given statement LedgerRefused, proved for all arguments: the reading of its arguments, and the proof
-/
import Derived.Test.YtkhhdojgbkophaaGreatB41
import Derived.Test.YtkhhdojgbkophaaGreatC5
import Derived.Test.YtkhhdojgbkophaaGreatB43
set_option linter.unusedVariables false
set_option linter.unusedSimpArgs false
namespace Go.Proofs.YtkhhdojgbkophaaGreat
open Go.ChangeShapes Go.WideShapes Go.ChangeAt Go.RowKit Go.Ab Go.Proofs.Led
namespace Law5
theorem ag3:aggB (Tryz.prog.underlying 3)=false:=by kernel_rfl
theorem ce3:Tryz.prog.cellsOf 3=1:=by kernel_rfl
theorem ag22:aggB (Tryz.prog.underlying 22)=false:=by kernel_rfl
theorem ce22:Tryz.prog.cellsOf 22=1:=by kernel_rfl
abbrev aC8:List V->Prop:=fun ys=>∃xs0 r0,ys=aI0 (aggB (Tryz.prog.underlying 22)) xs0::r0/\Q22 xs0/\∃xs1 r1,r0=aI0 (aggB (Tryz.prog.underlying 3)) xs1::r1/\Q3 xs1/\r1=[]
theorem bF9(W:World):wE Tryz.prog T W (bQ W) aC8 [22,3] :=(oV (d22 W) (fun _=>ce22) (oV (d3 W) (fun _=>ce3) vW))
theorem bJ3(ys:List V)(h:aC8 ys):Go.Ab.Spec T Tryz.prog 5 ys (.lit (.bool true)):=by
 obtain⟨xs0,r0,rfl,h0,⟨xs1,r1,rfl,h1,rfl⟩⟩:=h
 rw[ag22,ag3]
 obtain⟨l,rfl,hl,hq⟩:=h0
 obtain⟨l',rfl,hb⟩:=cC1 hq
 obtain⟨n,rfl,_⟩:=h1
 exact aY4 l' n (by simpa using max6 hl) hb
set_option maxRecDepth 100000 in
theorem lifted(os:Os)(started:os.Started)(H:Type)(enc:TypeId×Value->H):
 ReturnsInHanded {} Tryz.checked os 5 .any (Rows.ledgerRefusedSpec.pre6 enc Tryz.prog Tryz.f5 Rows.ledgerRefusedRow.domain false) (Rows.ledgerRefusedSpec.post enc Tryz.prog Tryz.f5 false true false false):=by
 refine returnsInHanded_of_change (C:=Tryz.checked) own started (by kernel_rfl) Tryz.func5
  (ChangeSpec.witness6 (enc:=enc) (C:=Tryz.checked) false ⟨#[], #[.slice none 0 0, .int .i64 0],[]⟩ 8 (by kernel_rfl) (by kernel_rfl) (by kernel_rfl) (by kernel_rfl)) ?_
 intro W base args ds gs before hval hW _ _
 exact tJ (T:=T) (tb:=4) laidOut rfl (fun H ds hd=>by
  match ds,hd with
  | [d1,d2],_=>rfl) (by kernel_rfl) (by kernel_rfl) (fun t ht=>by
  rw[Tryz.params5]at ht
  simp at ht
  rcases ht with rfl|rfl<;>exact⟨by kernel_rfl,of_decide_eq_true (by kernel_rfl)⟩) (fun W=>by rw[Tryz.params5];exact bF9 W) bJ3 W base args ds gs before hval hW trivial
theorem over:Rows.ledgerRefusedRow.holds Tryz.pinned (OpenSpec.ofChange Rows.ledgerRefusedSpec):=
 OpenClaim.holds_of_wide 5 Tryz.f5 rfl rfl rfl rfl rfl rfl rfl ⟨rfl,rfl,rfl,rfl,rfl⟩ rfl rfl rfl rfl rfl (by kernel_rfl) Tryz.func5 closed
  (of_decide_eq_true (by kernel_rfl)) (by unfold Func.isWrapper;first|(rw[if_pos (by decide+kernel)];kernel_rfl)|(rw[if_neg (by decide+kernel)];exact⟨rfl,rfl⟩))
  (fun os started H enc _=>lifted os started H enc)
end Law5
theorem ledgerRefused_proved:Rows.LedgerRefusedSaid:=Law5.over
#print axioms ledgerRefused_proved
end Go.Proofs.YtkhhdojgbkophaaGreat
