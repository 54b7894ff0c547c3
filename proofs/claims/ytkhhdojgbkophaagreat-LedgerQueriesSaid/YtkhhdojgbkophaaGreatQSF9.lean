/-
  The given statement LedgerQueries, proved for all arguments: the reading of its arguments, and the proof
-/
import Derived.Test.YtkhhdojgbkophaaGreatQSC9
import Derived.Test.YtkhhdojgbkophaaGreatQB28
set_option linter.unusedVariables false
set_option linter.unusedSimpArgs false
namespace Go.Proofs.YtkhhdojgbkophaaGreat
open Go.ChangeShapes Go.WideShapes Go.ChangeAt Go.RowKit Go.Ab Go.Proofs.Led
namespace Law9
theorem ag3:aggB (Tryz.prog.underlying 3)=false:=Ad
theorem ce3:Tryz.prog.cellsOf 3=1:=Ad
theorem ag9:aggB (Tryz.prog.underlying 9)=false:=Ad
theorem ce9:Tryz.prog.cellsOf 9=1:=Ad
theorem ag22:aggB (Tryz.prog.underlying 22)=false:=Ad
theorem ce22:Tryz.prog.cellsOf 22=1:=Ad
abbrev aC8:List V->Prop:=fun ys=>∃xs0 r0,ys=aI0 (aggB (Tryz.prog.underlying 22)) xs0::r0/\Q22 xs0/\∃xs1 r1,r0=aI0 (aggB (Tryz.prog.underlying 3)) xs1::r1/\Q3 xs1/\∃xs2 r2,r1=aI0 (aggB (Tryz.prog.underlying 9)) xs2::r2/\Q9 xs2/\r2=[]
theorem bF9(W:World):wE Tryz.prog T W (bQ W) aC8 [22,3,9] :=(oV (d22 W) (fun _=>ce22) (oV (d3 W) (fun _=>ce3) (oV (d9 W) (fun _=>ce9) vW)))
theorem bJ3(ys:List V)(h:aC8 ys):Go.Ab.Spec T Tryz.prog 9 ys (.lit (.bool true)):=by
 obtain⟨xs0,r0,rfl,h0,⟨xs1,r1,rfl,h1,⟨xs2,r2,rfl,h2,rfl⟩⟩⟩:=h;rw[ag22,ag3,ag9];obtain⟨l,rfl,hl,hq⟩:=h0;obtain⟨l',rfl,hb⟩:=cC1 hq;obtain⟨n,rfl,_⟩:=h1;obtain⟨p,rfl,_⟩:=h2;exact lawQueries_spec l' n p FK hb
set_option maxRecDepth 100000 in
theorem lifted(os:Os)(started:os.Started)(H:Type)(enc:TypeId×Value->H):
 ReturnsInHanded {} Tryz.checked os 9 .any (Rows.ledgerQueriesSpec.pre6 enc Tryz.prog Tryz.f9 Rows.ledgerQueriesRow.domain false) (Rows.ledgerQueriesSpec.post enc Tryz.prog Tryz.f9 false true false false):=by
 refine returnsInHanded_of_change (C:=Tryz.checked) own started Ad Tryz.func9
  (ChangeSpec.witness6 (enc:=enc) (C:=Tryz.checked) false ⟨#[], #[.slice none 0 0, .int .i64 0, .string ⟨#[]⟩],[]⟩ 8 Ad Ad Ad Ad) ?_
 intro W base args ds gs before hval hW _ _
 exact tJ (T:=T) (tb:=4) laidOut rfl (fun H ds hd=>by
  match ds,hd with
  | [d1,d2,d3],_=>rfl) Ad Ad (fun t ht=>by
  rw[Tryz.params9]at ht;simp at ht;rcases ht with rfl|rfl|rfl<;>exact⟨Ad,of_decide_eq_true Ad⟩) (fun W=>by rw[Tryz.params9];exact bF9 W) bJ3 W base args ds gs before hval hW trivial
theorem over:Rows.ledgerQueriesRow.holds Tryz.pinned (OpenSpec.ofChange Rows.ledgerQueriesSpec):=
 OpenClaim.holds_of_wide 9 Tryz.f9 rfl rfl rfl rfl rfl rfl rfl ⟨rfl,rfl,rfl,rfl,rfl⟩ rfl rfl rfl rfl rfl Ad Tryz.func9 closed
  (of_decide_eq_true Ad) (by unfold Func.isWrapper;first|(rw[if_pos (by decide+kernel)];kernel_rfl)|(rw[if_neg (by decide+kernel)];exact⟨rfl,rfl⟩))
  (fun os started H enc _=>lifted os started H enc)
end Law9
theorem ledgerQueries_proved:Rows.LedgerQueriesSaid:=Law9.over
#print axioms ledgerQueries_proved
end Go.Proofs.YtkhhdojgbkophaaGreat
