/-
  The given statement LedgerCutBar, proved for all arguments: the reading of its arguments, and the proof
-/
import Derived.Test.YtkhhdojgbkophaaGreatB41
import Derived.Test.YtkhhdojgbkophaaGreatC6
import Derived.Test.YtkhhdojgbkophaaGreatN7
set_option linter.unusedVariables false
set_option linter.unusedSimpArgs false
namespace Go.Proofs.YtkhhdojgbkophaaGreat
open Go.ChangeShapes Go.WideShapes Go.ChangeAt Go.RowKit Go.Ab Go.Proofs.Led
theorem d73(W:World):Dec Tryz.prog W (bQ W) 73 Q73:=pV false (by kernel_rfl) (by kernel_rfl) (d5 W) (by decide+kernel) (fun _=>by kernel_rfl) (jZ W)
namespace Law6
theorem ag5:aggB (Tryz.prog.underlying 5)=false:=by kernel_rfl
theorem ce5:Tryz.prog.cellsOf 5=1:=by kernel_rfl
theorem ag48:aggB (Tryz.prog.underlying 48)=true:=by kernel_rfl
theorem ag73:aggB (Tryz.prog.underlying 73)=false:=by kernel_rfl
theorem ce73:Tryz.prog.cellsOf 73=1:=by kernel_rfl
abbrev aC8:List V->Prop:=fun ys=>∃xs0 r0,ys=aI0 (aggB (Tryz.prog.underlying 48)) xs0::r0/\Q48 xs0/\∃xs1 r1,r0=aI0 (aggB (Tryz.prog.underlying 73)) xs1::r1/\Q73 xs1/\∃xs2 r2,r1=aI0 (aggB (Tryz.prog.underlying 5)) xs2::r2/\Q5 xs2/\r2=[]
theorem bF9(W:World):wE Tryz.prog T W (bQ W) aC8 [48,73,5] :=(oV (d48 W) (fun h=>by rw[ag48]at h;cases h) (oV (d73 W) (fun _=>ce73) (oV (d5 W) (fun _=>ce5) vW)))
theorem bJ3(ys:List V)(h:aC8 ys):Go.Ab.Spec T Tryz.prog 6 ys (.lit (.bool true)):=by
 obtain⟨xs0,r0,rfl,h0,⟨xs1,r1,rfl,h1,⟨xs2,r2,rfl,h2,rfl⟩⟩⟩:=h
 rw[ag48,ag73,ag5]
 obtain⟨b,rfl,hb⟩:=eY4 _ h0
 obtain⟨l,rfl,hl,hq⟩:=h1
 obtain⟨l',rfl,hz⟩:=cF8 (f:=U) (P:=fun n=>0<=n/\n<=255) (Q:=Q5) (fun xs h=>by obtain⟨n,rfl,hn⟩:=h;exact⟨n,rfl,hn⟩) hq
 obtain⟨n,rfl,hn⟩:=h2
 exact lawCutBar_spec b l' n hb (by simpa using max6 hl) hz hn
set_option maxRecDepth 100000 in
theorem lifted(os:Os)(started:os.Started)(H:Type)(enc:TypeId×Value->H):
 ReturnsInHanded {} Tryz.checked os 6 .any (Rows.ledgerCutBarSpec.pre6 enc Tryz.prog Tryz.f6 Rows.ledgerCutBarRow.domain false) (Rows.ledgerCutBarSpec.post enc Tryz.prog Tryz.f6 false true false false):=by
 refine returnsInHanded_of_change (C:=Tryz.checked) own started (by kernel_rfl) Tryz.func6
  (ChangeSpec.witness6 (enc:=enc) (C:=Tryz.checked) false ⟨#[], #[.agg #[.int .i64 0, .string ⟨#[]⟩, .string ⟨#[]⟩, .int .i64 0, .slice none 0 0], .slice none 0 0, .int .u8 0],[]⟩ 8 (by kernel_rfl) (by kernel_rfl) (by kernel_rfl) (by kernel_rfl)) ?_
 intro W base args ds gs before hval hW _ _
 exact tJ (T:=T) (tb:=4) laidOut rfl (fun H ds hd=>by
  match ds,hd with
  | [d1,d2,d3],_=>rfl) (by kernel_rfl) (by kernel_rfl) (fun t ht=>by
  rw[Tryz.params6]at ht
  simp at ht
  rcases ht with rfl|rfl|rfl<;>exact⟨by kernel_rfl,of_decide_eq_true (by kernel_rfl)⟩) (fun W=>by rw[Tryz.params6];exact bF9 W) bJ3 W base args ds gs before hval hW trivial
theorem over:Rows.ledgerCutBarRow.holds Tryz.pinned (OpenSpec.ofChange Rows.ledgerCutBarSpec):=
 OpenClaim.holds_of_wide 6 Tryz.f6 rfl rfl rfl rfl rfl rfl rfl ⟨rfl,rfl,rfl,rfl,rfl⟩ rfl rfl rfl rfl rfl (by kernel_rfl) Tryz.func6 closed
  (of_decide_eq_true (by kernel_rfl)) (by unfold Func.isWrapper;first|(rw[if_pos (by decide+kernel)];kernel_rfl)|(rw[if_neg (by decide+kernel)];exact⟨rfl,rfl⟩))
  (fun os started H enc _=>lifted os started H enc)
end Law6
theorem ledgerCutBar_proved:Rows.LedgerCutBarSaid:=Law6.over
#print axioms ledgerCutBar_proved
end Go.Proofs.YtkhhdojgbkophaaGreat
