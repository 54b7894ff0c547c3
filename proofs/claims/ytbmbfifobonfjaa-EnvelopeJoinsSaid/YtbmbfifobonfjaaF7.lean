/-
  The given statement EnvelopePack, proved for all arguments: the reading of its arguments, and the proof.
-/
import Derived.Test.YtbmbfifobonfjaaF3
import Derived.Test.YtbmbfifobonfjaaW15
set_option linter.unusedVariables false
set_option linter.unusedSimpArgs false
namespace Go.Proofs.Ytbmbfifobonfjaa
open Go.ChangeShapes Go.WideShapes Go.ChangeAt Go.RowKit Go.Ab Go.Proofs.Env41
namespace Law7
theorem ag62 : aggB (Try.prog.underlying 62) = false := by kernel_rfl
theorem ag63 : aggB (Try.prog.underlying 63) = false := by kernel_rfl
theorem ce3 : Try.prog.cellsOf 3 = 1 := by kernel_rfl
theorem ce62 : Try.prog.cellsOf 62 = 1 := by kernel_rfl
theorem ce63 : Try.prog.cellsOf 63 = 1 := by kernel_rfl
abbrev QTri : List V → Prop := QAll [QI, QI, QI]
abbrev QRects : List V → Prop := QSlice true QPair
abbrev QPls : List V → Prop := QSlice true QTri
theorem dPl (W : World) : Dec Try.prog W (frozenGh W) 39 QTri := dec_struct Try.underlying39 (parts_cons rfl (dI W) (parts_cons (by kernel_rfl) (dI W) (parts_cons (by kernel_rfl) (dI W) (parts_nil (by kernel_rfl)))))
theorem dRects (W : World) : Dec Try.prog W (frozenGh W) 62 QRects := dec_slice true (by kernel_rfl) (by kernel_rfl) (dRect W) (by decide +kernel) (fun h => by cases h) (frozenGh_fz W)
theorem dPls (W : World) : Dec Try.prog W (frozenGh W) 63 QPls := dec_slice true (by kernel_rfl) (by kernel_rfl) (dPl W) (by decide +kernel) (fun h => by cases h) (frozenGh_fz W)
theorem int_of {xs : List V} (h : QI xs) : ∃ n : Int, argOf false xs = I n := by
  obtain ⟨n, rfl, _⟩ := h
  exact ⟨n, rfl⟩
theorem rects_of {xs : List V} (h : QRects xs) : ∃ rs : List (Int × Int), argOf false xs = .sl (rs.map stepV) := by
  obtain ⟨l, rfl, _, hl⟩ := h
  obtain ⟨l', rfl⟩ := pairs_of hl
  exact ⟨l', rfl⟩
theorem tri_of {xs : List V} (h : QTri xs) : ∃ p : Int × Int × Int, xs = [.lit (.int .i64 p.1), .lit (.int .i64 p.2.1), .lit (.int .i64 p.2.2)] := by
  obtain ⟨a, b, rfl, ⟨n, rfl, _⟩, c, d, rfl, ⟨m, rfl, _⟩, e, f, rfl, ⟨k, rfl, _⟩, rfl⟩ := h
  exact ⟨(n, m, k), rfl⟩
theorem tris_of : ∀ {l : List V}, (∀ x ∈ l, QTri x.cells ∧ (true = true → ∃ ys, x = .agg ys)) → ∃ l' : List (Int × Int × Int), l = l'.map plV
  | [], _ => ⟨[], rfl⟩
  | x :: l, h => by
    obtain ⟨h1, h2⟩ := h x (by simp)
    obtain ⟨ys, rfl⟩ := h2 rfl
    obtain ⟨p, hp⟩ := tri_of h1
    obtain ⟨l', rfl⟩ := tris_of (l := l) (fun y hy => h y (by simp [hy]))
    have hp' : ys = [.lit (.int .i64 p.1), .lit (.int .i64 p.2.1), .lit (.int .i64 p.2.2)] := hp
    exact ⟨p :: l', by rw [hp']; rfl⟩
theorem pls_of {xs : List V} (h : QPls xs) : ∃ ps : List (Int × Int × Int), argOf false xs = .sl (ps.map plV) := by
  obtain ⟨l, rfl, _, hl⟩ := h
  obtain ⟨l', rfl⟩ := tris_of hl
  exact ⟨l', rfl⟩
theorem dArgs (W : World) : DecArgs Try.prog T W (frozenGh W) (fun ys => ∃ xs r, ys = argOf (aggB (Try.prog.underlying 3)) xs :: r ∧ QI xs ∧ ∃ xs r', r = argOf (aggB (Try.prog.underlying 62)) xs :: r' ∧ QRects xs ∧ ∃ xs r2, r' = argOf (aggB (Try.prog.underlying 63)) xs :: r2 ∧ QPls xs ∧ r2 = []) [3, 62, 63] := decArgs_cons (dI W) (fun _ => ce3) (decArgs_cons (dRects W) (fun _ => ce62) (decArgs_cons (dPls W) (fun _ => ce63) decArgs_nil))
theorem sArgs (ys : List V) (h : ∃ xs r, ys = argOf (aggB (Try.prog.underlying 3)) xs :: r ∧ QI xs ∧ ∃ xs r', r = argOf (aggB (Try.prog.underlying 62)) xs :: r' ∧ QRects xs ∧ ∃ xs r2, r' = argOf (aggB (Try.prog.underlying 63)) xs :: r2 ∧ QPls xs ∧ r2 = []) : Go.Ab.Spec T Try.prog 7 ys (.lit (.bool true)) := by
  obtain ⟨xs, r, rfl, h1, xs1, r1, rfl, h2, xs2, r2, rfl, h3, rfl⟩ := h
  rw [ag3, ag62, ag63]
  obtain ⟨W, e⟩ := int_of h1
  obtain ⟨rs, e1⟩ := rects_of h2
  obtain ⟨ps, e2⟩ := pls_of h3
  rw [e, e1, e2]
  exact law_pack_spec
set_option maxRecDepth 100000 in
theorem lifted (os : Os) (started : os.Started) (H : Type) (enc : TypeId × Value → H) :
    ReturnsInHanded {} Try.checked os 7 .any (Rows.envelopePackSpec.pre6 enc Try.prog Try.f7 Rows.envelopePackRow.domain false) (Rows.envelopePackSpec.post enc Try.prog Try.f7 false true false false) := by
  refine returnsInHanded_of_change (C := Try.checked) own started (by kernel_rfl) Try.func7
    (ChangeSpec.witness6 (enc := enc) (C := Try.checked) false ⟨#[], #[.int .i64 0, .slice none 0 0, .slice none 0 0], []⟩ 8 (by kernel_rfl) (by kernel_rfl) (by kernel_rfl) (by kernel_rfl)) ?_
  intro W base args ds gs before hval hW _ _
  exact law_contract (T := T) (tb := 4) laidOut rfl (fun H ds hd => by
      match ds, hd with
      | [d1, d2, d3], _ => rfl) (by kernel_rfl) (by kernel_rfl) (fun t ht => by
      rw [Try.params7] at ht
      simp at ht
      rcases ht with rfl | rfl | rfl <;> exact ⟨by kernel_rfl, of_decide_eq_true (by kernel_rfl)⟩) (fun W => by rw [Try.params7]; exact dArgs W) sArgs W base args ds gs before hval hW
theorem over : Rows.envelopePackRow.holds Try.pinned (OpenSpec.ofChange Rows.envelopePackSpec) :=
  OpenClaim.holds_of_wide 7 Try.f7 rfl rfl rfl rfl rfl rfl rfl ⟨rfl, rfl, rfl, rfl, rfl⟩ rfl rfl rfl rfl rfl (by kernel_rfl) Try.func7 (by kernel_rfl)
    (of_decide_eq_true (by kernel_rfl)) (by unfold Func.isWrapper; first | (rw [if_pos (by decide +kernel)]; kernel_rfl) | (rw [if_neg (by decide +kernel)]; exact ⟨rfl, rfl⟩))
    (fun os started H enc _ => lifted os started H enc)
end Law7
theorem envelopePack_proved : Rows.EnvelopePackSaid := Law7.over
#print axioms envelopePack_proved
end Go.Proofs.Ytbmbfifobonfjaa
