/-
  Sharing an amount, walked: the reference's function.
  Names, walked: letters, digits, what follows in a name.
-/
import Derived.Test.YtckcanemolkncaaDoorH22
import Derived.Test.YtckcanemolkncaaDoorH17
import Derived.Laws.StructEq
import Derived.WideShapes
import Derived.Lib.ItoaLen
import Derived.Lib.SmallJoins
set_option linter.unusedVariables false
set_option linter.unusedSimpArgs false
namespace Go.Proofs.Cost58
open Go Go.Proofs Go.Ab
set_option maxRecDepth 100000

theorem idx_get {α : Type} {f : α → V} {l : List α} {i : Nat} {K : V → Prop} (hi : i < l.length) (hk : K (f l[i])) : idx (l.map f) i K := idx_i _ (by simp [hi]) hk
theorem need_len {α : Type} {f : α → V} {l : List α} {z : Int} {K : Prop} (h : 0 ≤ z ∧ z < l.length) (hk : K) : need (0 ≤ z ∧ z < (l.map f).length) K := need_i ⟨h.1, by rw [List.length_map]; exact h.2⟩ hk
noncomputable def doneV (am s : Int) (ws : List Int) (k : Nat) (i : Nat) : V := .lit (.bool (decB (doneP am s ws k i)))
noncomputable def doneL (am s : Int) (ws : List Int) (k : Nat) : List V := (List.range ws.length).map (doneV am s ws k)
theorem doneL_set {am s : Int} {ws : List Int} {k : Nat} {b : Int} (hb : (ordP am s ws)[k]? = some b) (h0 : 0 ≤ b) : (doneL am s ws k).set b.toNat (.lit (.bool true)) = doneL am s ws (k + 1) := by
  unfold doneL
  apply List.ext_getElem (by simp)
  intro i h1 h2
  rw [List.getElem_set]
  simp only [List.getElem_map, List.getElem_range]
  unfold doneV
  split
  · rename_i e
    rw [decB_t.2 ((done_succ hb _).2 (.inr (by omega)))]
  · rename_i e
    rw [dec_dec (done_succ hb i)]
    congr 2
    exact dec_dec ⟨.inl, fun h => h.resolve_right (by omega)⟩
theorem rest_get {am s : Int} {ws : List Int} {b : Int} (h : b.toNat < ws.length) : restF am s ws b = (am * ws[b.toNat]).tmod s := by
  unfold restF
  rw [List.getD_eq_getElem?_getD, List.getElem?_eq_getElem h]; rfl

theorem ret0 {am : Int} {ws : List Int} {ar : Nat → Option AE} (hn : ¬ ShOk am ws) : ∃ ys, V.tup [.own 3 ((shareR am ws).1.map I), I (shareR am ws).2] = .tup ys ∧ giveL T ar ys [.lit (.slice none 0 0), I 2] ∧ keysOk [.lit (.slice none 0 0), I 2] ys = true := by
  rw [shareR_no hn]
  exact ret_two ⟨of_decide_eq_true (by kernel_rfl), rfl⟩ rfl rfl
theorem rshare_vc (am : Int) (ws : List Int) (hl : ws.length ≤ 1000) :
    fnVC T Tryd.prog Tryd.f12 [I am, .sl (ws.map I)] (.tup [.own 3 ((shareR am ws).1.map I), I (shareR am ws).2]) := by
  have hll : (ws.map I).length = ws.length := by simp
  repeat' ((conv => whnf); first
    | refine seq_go ?_
    | refine draw_i (by kernel_rfl) ?_
    | refine arith_half (by omega) ?_
    | refine arith_in (by omega) ?_
    | refine arith_u (by omega) ?_
    | refine need_i (p := (T.row _).eq = true) (by kernel_rfl) ?_
    | refine need_i (by omega) ?_
    | refine br_not ?_
    | refine br_dec (fun hd => ?_) (fun hd => ?_)
    | refine br_lt (fun hlt => ?_) (fun hlt => ?_)
    | refine br_le (fun hle => ?_) (fun hle => ?_)
    | refine br_eq (fun heq => ?_) (fun heq => ?_)
    | refine idx_map (by omega) (fun x hx => ?_)
    | refine live_i rfl (fun h => by cases h) ?_
    | refine branch_s (fun hbb => ?_) (fun hbb => ?_)
    | refine ret_i ?_
    | refine retB_i ?_)
  · conv => whnf
    exact ret0 (fun h => by have := h.2.1; omega)
  · conv => whnf
    exact ret0 (fun h => by have := h.2.2.1; omega)
  · conv => whnf
    refine ret0 (fun h => h.2.2.2.2 ?_)
    rw [List.length_eq_zero_iff.1 (show ws.length = 0 by omega)]; rfl
  · conv => whnf
    exact ret0 (fun h => by have := h.2.2.2.1; omega)
  rename_i ha0 ha1 _
  refine loop_2 (A := List Int) (B := List Int) (fun D R => mkSt [(0, I am), (1, .sl (ws.map I)), (4, .lit (.slice none 0 0)), (5, I 0), (6, I D.sum), (7, I D.length)] [] [])
    (fun D R => ws = D ++ R ∧ WOk D) (fun D R => R.length) [] ws ?_ ⟨rfl, by simp [WOk]⟩ (fun D R hp => ?_)
  · refine le_mk ?_ ?_ ?_ ?_
    all_goals repeat' (first | exact trivial | refine And.intro ?_ ?_ | with_reducible rfl | exact Nat.le_refl _ | omega | exact rfl)
  · obtain ⟨h1, h2⟩ := hp
    have hlen : ws.length = D.length + R.length := by rw [h1]; simp
    have hsD := sumB h2
    cases R with
    | cons x R =>
      rw [List.length_cons] at hlen
      repeat' ((conv => whnf); first
        | (exfalso; omega)
        | refine idx_mid (l := ws) (A := D) (x := x) (B := R) h1 (by omega) ?_
        | refine seq_go ?_
        | refine draw_i (by kernel_rfl) ?_
        | refine arith_half (by omega) ?_
        | refine arith_in (by omega) ?_
        | refine arith_u (by omega) ?_
        | refine need_i (p := (T.row _).eq = true) (by kernel_rfl) ?_
        | refine need_i (by omega) ?_
        | refine br_not ?_
        | refine br_dec (fun hd => ?_) (fun hd => ?_)
        | refine br_lt (fun hlt => ?_) (fun hlt => ?_)
        | refine br_le (fun hle => ?_) (fun hle => ?_)
        | refine br_eq (fun heq => ?_) (fun heq => ?_)
        | refine idx_map (by omega) (fun x hx => ?_)
        | refine live_i rfl (fun h => by cases h) ?_
        | refine branch_s (fun hbb => ?_) (fun hbb => ?_)
        | refine ret_i ?_
        | refine retB_i ?_)
      · conv => whnf
        exact ret0 (fun h => by have := h.1 x (by rw [h1]; simp); omega)
      · conv => whnf
        exact ret0 (fun h => by have := h.1 x (by rw [h1]; simp); omega)
      · conv => whnf
        refine ⟨(D ++ [x], R), ?_, ⟨?_, ?_⟩, ?_⟩
        · refine le_mk ?_ ?_ ?_ ?_
          all_goals repeat' (first | exact trivial | refine And.intro ?_ ?_ | with_reducible rfl | exact Nat.le_refl _ | omega | exact rfl)
          · show (D.sum : Int) + x = (D ++ [x]).sum
            simp
          · show (D.length : Int) + 1 = (D ++ [x]).length
            simp
        · rw [h1]; simp
        · intro w hw
          rcases List.mem_append.1 hw with hw | hw
          · exact h2 w hw
          · rw [List.mem_singleton.1 hw]; omega
        · show R.length < (x :: R).length
          simp
    | nil =>
      rw [List.append_nil] at h1
      subst h1
      clear hlen
      repeat' ((conv => whnf); first
        | (exfalso; omega)
        | refine seq_go ?_
        | refine draw_i (by kernel_rfl) ?_
        | refine arith_half (by omega) ?_
        | refine arith_in (by omega) ?_
        | refine arith_u (by omega) ?_
        | refine need_i (p := (T.row _).eq = true) (by kernel_rfl) ?_
        | refine need_i (by omega) ?_
        | refine br_not ?_
        | refine br_dec (fun hd => ?_) (fun hd => ?_)
        | refine br_lt (fun hlt => ?_) (fun hlt => ?_)
        | refine br_le (fun hle => ?_) (fun hle => ?_)
        | refine br_eq (fun heq => ?_) (fun heq => ?_)
        | refine idx_map (by omega) (fun x hx => ?_)
        | refine live_i rfl (fun h => by cases h) ?_
        | refine branch_s (fun hbb => ?_) (fun hbb => ?_)
        | refine ret_i ?_
        | refine retB_i ?_)
      · conv => whnf
        exact ret0 (fun h => h.2.2.2.2 heq)
      have hsok : ShOk am ws := ⟨h2, ha0, ha1, by omega, heq⟩
      have hs0 : 0 < ws.sum := by omega
      have hsh := hsok.share
      rw [shareR_ok hsok]
      refine loop_2 (A := List Int) (B := List Int) (fun D R => mkSt [(0, I am), (1, .sl (ws.map I)), (6, I ws.sum), (8, .arr 73 D.length), (9, I (am - (quos am ws.sum D).sum)), (10, I D.length)] [] [(73, ⟨D.length, .own, 3, (quos am ws.sum D).map I⟩)])
        (fun D R => ws = D ++ R) (fun D R => R.length) [] ws ?_ rfl (fun D R hp => ?_)
      · refine le_mk ?_ ?_ ?_ ?_
        all_goals repeat' (first | exact trivial | refine And.intro ?_ ?_ | with_reducible rfl | exact Nat.le_refl _ | omega | exact rfl)
        · show am = am - (quos am ws.sum []).sum
          simp [quos]
      · have h1 : ws = D ++ R := hp
        have hlen : ws.length = D.length + R.length := by rw [h1]; simp
        have hwD : WOk D := fun w hw => h2 w (by rw [h1]; simp [hw])
        have hqD := quosB ⟨ha0, ha1⟩ hs0 hwD
        have hqs := sumQ hqD
        rw [quos_len] at hqs
        cases R with
        | cons x R =>
          have hx0 := h2 x (by rw [h1]; simp)
          rw [List.length_cons] at hlen
          have hmx := mulB (a := am) (b := x) ⟨ha0, ha1⟩ hx0
          have hdx := tdivB (a := am * x) (b := ws.sum) (A := 1000000000 * 1000000) hmx hs0
          have hzl : (quos am ws.sum D ++ [(am * x).tdiv ws.sum]).length = D.length + 1 := by rw [List.length_append, quos_len]; rfl
          have hzm : (List.map I (quos am ws.sum D) ++ [I ((am * x).tdiv ws.sum)]) = List.map I (quos am ws.sum D ++ [(am * x).tdiv ws.sum]) := by simp
          repeat' ((conv => whnf); first
            | (exfalso; omega)
            | refine idx_mid (l := ws) (A := D) (x := x) (B := R) h1 (by omega) ?_
            | refine arith_in (by omega) ?_
            | refine arith_tdiv hmx hs0 (by decide) ?_
            | refine need_app rfl (.inl rfl) rfl (of_decide_eq_true rfl) (one_cells rfl) (by show (List.map I (quos am ws.sum D)).length + 1 ≤ _; rw [List.length_map, quos_len]; omega) ?_
            | (refine need_mid (l := quos am ws.sum D ++ [(am * x).tdiv ws.sum]) rfl (fun h => by cases h) hzm ?_ ?_; focus (constructor <;> omega))
            | refine idx_i (I ((am * x).tdiv ws.sum)) (by show (List.map I (quos am ws.sum D) ++ [I ((am * x).tdiv ws.sum)])[D.length]? = _; rw [List.getElem?_append_right (by rw [List.length_map, quos_len]; omega), List.length_map, quos_len]; simp) ?_
            | refine seq_go ?_
            | refine draw_i (by kernel_rfl) ?_
            | refine arith_half (by omega) ?_
            | refine arith_in (by omega) ?_
            | refine arith_u (by omega) ?_
            | refine need_i (p := (T.row _).eq = true) (by kernel_rfl) ?_
            | refine need_i (by omega) ?_
            | refine br_not ?_
            | refine br_dec (fun hd => ?_) (fun hd => ?_)
            | refine br_lt (fun hlt => ?_) (fun hlt => ?_)
            | refine br_le (fun hle => ?_) (fun hle => ?_)
            | refine br_eq (fun heq => ?_) (fun heq => ?_)
            | refine idx_map (by omega) (fun x hx => ?_)
            | refine live_i rfl (fun h => by cases h) ?_
            | refine branch_s (fun hbb => ?_) (fun hbb => ?_)
            | refine ret_i ?_
            | refine retB_i ?_)
          conv => whnf
          refine ⟨(D ++ [x], R), ?_, ?_, ?_⟩
          · refine le_mk ?_ ?_ ?_ ?_
            all_goals repeat' (first | exact trivial | refine And.intro ?_ ?_ | with_reducible rfl | exact Nat.le_refl _ | omega | exact rfl)
            · show D.length + 1 = (D ++ [x]).length
              simp
            · show List.map I (quos am ws.sum D) ++ [I ((am * x).tdiv ws.sum)] = List.map I (quos am ws.sum (D ++ [x]))
              rw [quos_snoc]; simp
            · show D.length + 1 = (D ++ [x]).length
              simp
            · show am - (quos am ws.sum D).sum - (am * x).tdiv ws.sum = am - (quos am ws.sum (D ++ [x])).sum
              rw [quos_snoc, List.sum_append]; simp; omega
            · show (D.length : Int) + 1 = (D ++ [x]).length
              simp
          · show ws = D ++ [x] ++ R
            rw [h1]; simp
          · show R.length < (x :: R).length
            simp
        | nil =>
          rw [List.append_nil] at h1
          subst h1
          clear hlen
          have hlb := left_bd hsh
          have hlp : leftP am ws.sum ws = am - (quos am ws.sum ws).sum := rfl
          repeat' ((conv => whnf); first
            | (exfalso; omega)
            | refine need_make (by omega) rfl (by omega) (of_decide_eq_true rfl) ?_
            | refine seq_go ?_
            | refine draw_i (by kernel_rfl) ?_
            | refine arith_half (by omega) ?_
            | refine arith_in (by omega) ?_
            | refine arith_u (by omega) ?_
            | refine need_i (p := (T.row _).eq = true) (by kernel_rfl) ?_
            | refine need_i (by omega) ?_
            | refine br_not ?_
            | refine br_dec (fun hd => ?_) (fun hd => ?_)
            | refine br_lt (fun hlt => ?_) (fun hlt => ?_)
            | refine br_le (fun hle => ?_) (fun hle => ?_)
            | refine br_eq (fun heq => ?_) (fun heq => ?_)
            | refine idx_map (by omega) (fun x hx => ?_)
            | refine live_i rfl (fun h => by cases h) ?_
            | refine branch_s (fun hbb => ?_) (fun hbb => ?_)
            | refine ret_i ?_
            | refine retB_i ?_)
          refine loop_i (A := Nat) (fun k => mkSt [(0, I am), (1, .sl (ws.map I)), (6, I ws.sum), (8, .arr 73 ws.length), (9, I (leftP am ws.sum ws - k)), (11, .arr 82 0)] [] [(73, ⟨ws.length, .own, 3, (bump (quos am ws.sum ws) ((ordP am ws.sum ws).take k)).map I⟩), (82, ⟨0, .own, 4, doneL am ws.sum ws k⟩)])
            (fun k => k ≤ (leftP am ws.sum ws).toNat) (fun k => (leftP am ws.sum ws).toNat - k) 0 ?_ (Nat.zero_le _) (fun k hk => ?_)
          · refine le_mk ?_ ?_ ?_ ?_
            all_goals repeat' (first | exact trivial | refine And.intro ?_ ?_ | with_reducible rfl | exact Nat.le_refl _ | omega | exact rfl)
            · show List.replicate (((ws.map I).length : Nat) : Int).toNat (.lit (.bool false)) = doneL am ws.sum ws 0
              rw [hll, show (((ws.length : Nat) : Int)).toNat = ws.length from rfl]
              unfold doneL
              apply List.ext_getElem (by simp)
              intro i h1 h2
              rw [List.getElem_replicate, List.getElem_map]
              unfold doneV
              rw [decB_f.2 (by unfold doneP; simp)]
          · change k ≤ (leftP am ws.sum ws).toNat at hk
            have hbl : (bump (quos am ws.sum ws) ((ordP am ws.sum ws).take k)).length = ws.length := by rw [bump_len, quos_len]
            have hbB := bumpB (is := (ordP am ws.sum ws).take k) hqD
            have htl : ((ordP am ws.sum ws).take k).length ≤ k := by rw [List.length_take]; omega
            have hdl : (doneL am ws.sum ws k).length = ws.length := by unfold doneL; simp
            repeat' ((conv => whnf); first
              | refine seq_go ?_
              | refine draw_i (by kernel_rfl) ?_
              | refine arith_half (by omega) ?_
              | refine arith_in (by omega) ?_
              | refine arith_u (by omega) ?_
              | refine need_i (p := (T.row _).eq = true) (by kernel_rfl) ?_
              | refine need_i (by omega) ?_
              | refine br_not ?_
              | refine br_dec (fun hd => ?_) (fun hd => ?_)
              | refine br_lt (fun hlt => ?_) (fun hlt => ?_)
              | refine br_le (fun hle => ?_) (fun hle => ?_)
              | refine br_eq (fun heq => ?_) (fun heq => ?_)
              | refine idx_map (by omega) (fun x hx => ?_)
              | refine live_i rfl (fun h => by cases h) ?_
              | refine branch_s (fun hbb => ?_) (fun hbb => ?_)
              | refine ret_i ?_
              | refine retB_i ?_)
            · refine loop_2 (A := Nat) (B := Int) (fun m b => mkSt [(0, I am), (1, .sl (ws.map I)), (6, I ws.sum), (8, .arr 73 ws.length), (9, I (leftP am ws.sum ws - k)), (11, .arr 82 0), (12, I b), (13, I m)] [] [(73, ⟨ws.length, .own, 3, (bump (quos am ws.sum ws) ((ordP am ws.sum ws).take k)).map I⟩), (82, ⟨0, .own, 4, doneL am ws.sum ws k⟩)])
                (fun m b => m ≤ ws.length ∧ BestP am ws.sum ws k m b) (fun m b => ws.length - m) 0 (-1) ?_ ⟨Nat.zero_le _, best_zero⟩ (fun m b hp => ?_)
              · refine le_mk ?_ ?_ ?_ ?_
                all_goals repeat' (first | exact trivial | refine And.intro ?_ ?_ | with_reducible rfl | exact Nat.le_refl _ | omega | exact rfl)
              · obtain ⟨hm, hb⟩ := hp
                have hbr : -1 ≤ b ∧ b < ws.length := by
                  rcases hb with ⟨h, _⟩ | ⟨h, _⟩ <;> omega
                rcases Nat.lt_or_ge m ws.length with hml | hml
                · have hrm := rest_get (am := am) (s := ws.sum) (ws := ws) (b := m) (by show m < _; omega)
                  have step : ∀ b', BestP am ws.sum ws k (m + 1) b' → (m + 1 ≤ ws.length ∧ BestP am ws.sum ws k (m + 1) b') := fun b' h => ⟨hml, h⟩
                  repeat' ((conv => whnf); first
                    | (exfalso; omega)
                    | (refine need_i ⟨rfl, (fun h => by cases h), by omega, by show (m : Int) < (doneL am ws.sum ws k).length; omega⟩ ?_)
                    | refine idx_get (f := doneV am ws.sum ws k) (l := List.range ws.length) (by rw [List.length_range]; omega) ?_
                    | refine idx_get (f := I) (l := ws) (by omega) ?_
                    | refine need_len (l := ws) (by omega) ?_
                    | refine arith_mul (A := 1000000000) (B := 1000000) ⟨ha0, ha1⟩ (h2 _ (List.getElem_mem _)) (by decide) ?_
                    | refine seq_go ?_
                    | refine draw_i (by kernel_rfl) ?_
                    | refine arith_half (by omega) ?_
                    | refine arith_in (by omega) ?_
                    | refine arith_u (by omega) ?_
                    | refine need_i (p := (T.row _).eq = true) (by kernel_rfl) ?_
                    | refine need_i (by omega) ?_
                    | refine br_not ?_
                    | refine br_dec (fun hd => ?_) (fun hd => ?_)
                    | refine br_lt (fun hlt => ?_) (fun hlt => ?_)
                    | refine br_le (fun hle => ?_) (fun hle => ?_)
                    | refine br_eq (fun heq => ?_) (fun heq => ?_)
                    | refine idx_map (by omega) (fun x hx => ?_)
                    | refine live_i rfl (fun h => by cases h) ?_
                    | refine branch_s (fun hbb => ?_) (fun hbb => ?_)
                    | refine ret_i ?_
                    | refine retB_i ?_)
                  · conv => whnf
                    rw [List.getElem_range] at hd
                    refine ⟨(m + 1, b), ?_, step _ (best_done hb hd), by show ws.length - (m + 1) < ws.length - m; omega⟩
                    refine le_mk ?_ ?_ ?_ ?_
                    all_goals repeat' (first | exact trivial | refine And.intro ?_ ?_ | with_reducible rfl | exact Nat.le_refl _ | omega | exact rfl)
                  · conv => whnf
                    rw [List.getElem_range] at hd
                    refine ⟨(m + 1, (m : Int)), ?_, step _ (best_new hb hd (.inl hlt)), by show ws.length - (m + 1) < ws.length - m; omega⟩
                    refine le_mk ?_ ?_ ?_ ?_
                    all_goals repeat' (first | exact trivial | refine And.intro ?_ ?_ | with_reducible rfl | exact Nat.le_refl _ | omega | exact rfl)
                  · conv => whnf
                    rw [List.getElem_range] at hd
                    rw [← hrm, ← rest_get (b := b) (by omega)] at hlt
                    refine ⟨(m + 1, (m : Int)), ?_, step _ (best_new hb hd (.inr hlt)), by show ws.length - (m + 1) < ws.length - m; omega⟩
                    refine le_mk ?_ ?_ ?_ ?_
                    all_goals repeat' (first | exact trivial | refine And.intro ?_ ?_ | with_reducible rfl | exact Nat.le_refl _ | omega | exact rfl)
                  · conv => whnf
                    rw [List.getElem_range] at hd
                    rename_i hb0
                    rw [← hrm, ← rest_get (b := b) (by omega)] at hlt
                    refine ⟨(m + 1, b), ?_, step _ (best_keep hb hb0 hlt), by show ws.length - (m + 1) < ws.length - m; omega⟩
                    refine le_mk ?_ ?_ ?_ ?_
                    all_goals repeat' (first | exact trivial | refine And.intro ?_ ?_ | with_reducible rfl | exact Nat.le_refl _ | omega | exact rfl)
                · obtain rfl : m = ws.length := by omega
                  have hkl : k < ws.length := by omega
                  have ho := best_is hb hkl
                  have hb0 : 0 ≤ b := (ord_mem.1 (List.mem_of_getElem? ho)).1
                  repeat' ((conv => whnf); first
                    | (exfalso; omega)
                    | (refine need_i ⟨rfl, (fun h => by cases h), by omega, by show (b : Int) < (doneL am ws.sum ws k).length; omega⟩ ?_)
                    | refine own_i rfl rfl ?_
                    | refine idx_get (f := doneV am ws.sum ws k) (l := List.range ws.length) (by rw [List.length_range]; omega) ?_
                    | (refine need_mid (l := bump (quos am ws.sum ws) ((ordP am ws.sum ws).take k)) rfl (fun h => by cases h) rfl ?_ ?_; focus (constructor <;> omega))
                    | refine arith_in (by have := hbB _ (List.mem_of_getElem? hx); omega) ?_
                    | refine seq_go ?_
                    | refine draw_i (by kernel_rfl) ?_
                    | refine arith_half (by omega) ?_
                    | refine arith_in (by omega) ?_
                    | refine arith_u (by omega) ?_
                    | refine need_i (p := (T.row _).eq = true) (by kernel_rfl) ?_
                    | refine need_i (by omega) ?_
                    | refine br_not ?_
                    | refine br_dec (fun hd => ?_) (fun hd => ?_)
                    | refine br_lt (fun hlt => ?_) (fun hlt => ?_)
                    | refine br_le (fun hle => ?_) (fun hle => ?_)
                    | refine br_eq (fun heq => ?_) (fun heq => ?_)
                    | refine idx_map (by omega) (fun x hx => ?_)
                    | refine live_i rfl (fun h => by cases h) ?_
                    | refine branch_s (fun hbb => ?_) (fun hbb => ?_)
                    | refine ret_i ?_
                    | refine retB_i ?_)
                  conv => whnf
                  refine ⟨k + 1, ?_, by omega, by omega⟩
                  refine le_mk ?_ ?_ ?_ ?_
                  all_goals repeat' (first | exact trivial | refine And.intro ?_ ?_ | with_reducible rfl | exact Nat.le_refl _ | omega | exact rfl)
                  · rename_i x0 hx0
                    show List.set (List.map I (bump (quos am ws.sum ws) ((ordP am ws.sum ws).take k))) b.toNat (I (x0 + 1)) = List.map I (bump (quos am ws.sum ws) ((ordP am ws.sum ws).take (k + 1)))
                    rw [bump_succ _ ho, List.map_set, List.getD_eq_getElem?_getD, hx0]; rfl
                  · show List.set (doneL am ws.sum ws k) b.toNat (.lit (.bool true)) = doneL am ws.sum ws (k + 1)
                    exact doneL_set ho hb0
            · conv => whnf
              refine ret_two ⟨rfl, rfl, rfl, ?_⟩ rfl rfl
              show List.map I (bump (quos am ws.sum ws) ((ordP am ws.sum ws).take k)) = List.map I (shareP am ws.sum ws)
              unfold shareP
              rw [show k = (leftP am ws.sum ws).toNat by omega]
theorem rshare_spec (am : Int) (ws : List Int) (hl : ws.length ≤ 1000) : Sp 12 [I am, .sl (ws.map I)] (.tup [.own 3 ((shareR am ws).1.map I), I (shareR am ws).2]) :=
  sp_of Tryd.func12 (by kernel_rfl) (by kernel_rfl) (rshare_vc am ws hl)
end Go.Proofs.Cost58
namespace Go.Proofs.Cost58
open Go Go.Proofs Go.Ab
set_option maxRecDepth 100000

def U (n : Int) : V := .lit (.int .u8 n)
theorem eqS_t {a b : ByteArray} : eqS a b = true ↔ a = b := by
  unfold eqS
  rw [beq_iff_eq, ByteArray.toList_eq, ByteArray.toList_eq]
  exact ⟨WideShapes.bytes_inj, fun h => by rw [h]⟩
theorem eqS_f {a b : ByteArray} : eqS a b = false ↔ a ≠ b := by rw [← Bool.not_eq_true, eqS_t]
theorem br_eqS {a b : ByteArray} {A B : Prop} (h1 : a = b → A) (h2 : a ≠ b → B) : branch (eqS a b) A B := branch_s (fun h => h1 (eqS_t.1 h)) (fun h => h2 (eqS_f.1 h))
theorem eqS_dec {a b : ByteArray} {p : Prop} (h : a = b ↔ p) : eqS a b = decB p := Bool.eq_iff_iff.2 (by rw [eqS_t, decB_t]; exact h)

def isLetter (c : Int) : Prop := (97 ≤ c ∧ c ≤ 122) ∨ (65 ≤ c ∧ c ≤ 90)
def isDigit (c : Int) : Prop := 48 ≤ c ∧ c ≤ 57
def isInner (c : Int) : Prop := isLetter c ∨ isDigit c ∨ c = 95
def isName (s : ByteArray) : Prop := 1 ≤ s.size ∧ s.size ≤ 16 ∧ isLetter (byteAt s 0) ∧ ∀ i, i < s.size → isInner (byteAt s i)
theorem ret_boolD {ar : Nat → Option AE} {b : Bool} {p : Prop} (h : b = decB p) : giveL T ar [.lit (.bool (decB p))] [.lit (.bool b)] ∧ keysOk [.lit (.bool b)] [.lit (.bool (decB p))] = true ∧ (∀ rs, (V.lit (.bool (decB p))) ≠ .tup rs) := ret_bool h

theorem letter_vc (c : Int) : fnVC T Tryd.prog Tryd.f71 [U c] (.lit (.bool (decB (isLetter c)))) := by
  repeat' ((conv => whnf); first
    | refine seq_go ?_
    | refine draw_i (by kernel_rfl) ?_
    | refine arith_half (by omega) ?_
    | refine arith_in (by omega) ?_
    | refine arith_u (by omega) ?_
    | refine need_i (p := (T.row _).eq = true) (by kernel_rfl) ?_
    | refine need_i (by omega) ?_
    | refine br_not ?_
    | refine br_dec (fun hd => ?_) (fun hd => ?_)
    | refine br_lt (fun hlt => ?_) (fun hlt => ?_)
    | refine br_le (fun hle => ?_) (fun hle => ?_)
    | refine br_eq (fun heq => ?_) (fun heq => ?_)
    | refine idx_map (by omega) (fun x hx => ?_)
    | refine live_i rfl (fun h => by cases h) ?_
    | refine branch_s (fun hbb => ?_) (fun hbb => ?_)
    | refine ret_i ?_
    | refine retB_i ?_)
  all_goals (conv => whnf)
  all_goals refine ret_boolD ?_
  · exact dec_ret (by unfold isLetter; omega)
  · refine le_dec ?_
    unfold isLetter; omega
  · exact dec_retf (by unfold isLetter; omega)
  · refine le_dec ?_
    unfold isLetter; omega
  · exact dec_retf (by unfold isLetter; omega)
theorem letter_spec (c : Int) : Sp 71 [U c] (.lit (.bool (decB (isLetter c)))) := sp_of Tryd.func71 (by kernel_rfl) (by kernel_rfl) (letter_vc c)
theorem digit_vc (c : Int) : fnVC T Tryd.prog Tryd.f101 [U c] (.lit (.bool (decB (isDigit c)))) := by
  repeat' ((conv => whnf); first
    | refine seq_go ?_
    | refine draw_i (by kernel_rfl) ?_
    | refine arith_half (by omega) ?_
    | refine arith_in (by omega) ?_
    | refine arith_u (by omega) ?_
    | refine need_i (p := (T.row _).eq = true) (by kernel_rfl) ?_
    | refine need_i (by omega) ?_
    | refine br_not ?_
    | refine br_dec (fun hd => ?_) (fun hd => ?_)
    | refine br_lt (fun hlt => ?_) (fun hlt => ?_)
    | refine br_le (fun hle => ?_) (fun hle => ?_)
    | refine br_eq (fun heq => ?_) (fun heq => ?_)
    | refine idx_map (by omega) (fun x hx => ?_)
    | refine live_i rfl (fun h => by cases h) ?_
    | refine branch_s (fun hbb => ?_) (fun hbb => ?_)
    | refine ret_i ?_
    | refine retB_i ?_)
  all_goals (conv => whnf)
  all_goals refine ret_boolD ?_
  · refine le_dec ?_
    unfold isDigit; omega
  · exact dec_retf (by unfold isDigit; omega)
theorem digit_spec (c : Int) : Sp 101 [U c] (.lit (.bool (decB (isDigit c)))) := sp_of Tryd.func101 (by kernel_rfl) (by kernel_rfl) (digit_vc c)
theorem inner_vc (c : Int) : fnVC T Tryd.prog Tryd.f73 [U c] (.lit (.bool (decB (isInner c)))) := by
  repeat' ((conv => whnf); first
    | (refine call_i (letter_spec c) false ?_ rfl ?_; focus ((repeat' (first | exact trivial | refine And.intro ?_ ?_ | with_reducible rfl | exact (fun h => by cases h) | exact rfl)); done))
    | (refine call_i (digit_spec c) false ?_ rfl ?_; focus ((repeat' (first | exact trivial | refine And.intro ?_ ?_ | with_reducible rfl | exact (fun h => by cases h) | exact rfl)); done))
    | refine seq_go ?_
    | refine draw_i (by kernel_rfl) ?_
    | refine arith_half (by omega) ?_
    | refine arith_in (by omega) ?_
    | refine arith_u (by omega) ?_
    | refine need_i (p := (T.row _).eq = true) (by kernel_rfl) ?_
    | refine need_i (by omega) ?_
    | refine br_not ?_
    | refine br_dec (fun hd => ?_) (fun hd => ?_)
    | refine br_lt (fun hlt => ?_) (fun hlt => ?_)
    | refine br_le (fun hle => ?_) (fun hle => ?_)
    | refine br_eq (fun heq => ?_) (fun heq => ?_)
    | refine idx_map (by omega) (fun x hx => ?_)
    | refine live_i rfl (fun h => by cases h) ?_
    | refine branch_s (fun hbb => ?_) (fun hbb => ?_)
    | refine ret_i ?_
    | refine retB_i ?_)
  all_goals (conv => whnf)
  all_goals refine ret_boolD ?_
  · exact dec_ret (.inl hd)
  · exact dec_ret (.inr (.inl hd))
  · rename_i h1
    refine eq_dec ⟨fun h => .inr (.inr h), fun h => ?_⟩
    rcases h with h | h | h
    · exact (h1 h).elim
    · exact (hd h).elim
    · exact h
theorem inner_spec (c : Int) : Sp 73 [U c] (.lit (.bool (decB (isInner c)))) := sp_of Tryd.func73 (by kernel_rfl) (by kernel_rfl) (inner_vc c)

/-- how far a kind of bytes goes -/
noncomputable def wh (p : Nat → Bool) : Nat → Nat → Nat
  | 0, i => i
  | f + 1, i => if p i then wh p f (i + 1) else i
theorem wh_step {p : Nat → Bool} {f i : Nat} (h : p i = true) : wh p (f + 1) i = wh p f (i + 1) := by rw [wh, if_pos h]
theorem wh_stop {p : Nat → Bool} {f i : Nat} (h : p i = false) : wh p (f + 1) i = i := by rw [wh, if_neg (by simp [h])]
theorem wh_le (p : Nat → Bool) : ∀ f i, wh p f i ≤ i + f
  | 0, i => Nat.le_refl _
  | f + 1, i => by rw [wh]; split
                   · have := wh_le p f (i + 1); omega
                   · omega
theorem wh_all (p : Nat → Bool) : ∀ f i, wh p f i = i + f ↔ ∀ j, i ≤ j → j < i + f → p j = true
  | 0, i => by simp [wh]; omega
  | f + 1, i => by
    rw [wh]
    split
    · rename_i h
      have := wh_all p f (i + 1)
      rw [show i + (f + 1) = i + 1 + f by omega, this]
      constructor
      · intro h1 j hj hj2
        rcases Nat.eq_or_lt_of_le hj with rfl | hlt
        · exact h
        · exact h1 j hlt hj2
      · intro h1 j hj hj2
        exact h1 j (by omega) hj2
    · rename_i h
      constructor
      · intro h1; omega
      · intro h1; exact (h (h1 i (Nat.le_refl _) (by omega))).elim
noncomputable def whS (K : Int → Prop) (s : ByteArray) (i : Nat) : Nat := wh (fun j => decB (K (byteAt s j))) (s.size - i) i
theorem need_str {s : ByteArray} {z : Int} {K : Prop} (h : 0 ≤ z ∧ z < s.size) (hk : K) : need (0 ≤ z ∧ z < (s.size : Int)) K := need_i h hk
theorem while_vc {g : FuncId} {Kd : Int → Prop} (hg : ∀ c, Sp g [U c] (.lit (.bool (decB (Kd c))))) (s : ByteArray) (i : Nat) (hs : s.size ≤ 1000000000) :
    fnVC T Tryd.prog Tryd.f72 [S s, I i, .fn g []] (I (whS Kd s i)) := by
  repeat' ((conv => whnf); first
    | refine seq_go ?_
    | refine draw_i (by kernel_rfl) ?_
    | refine arith_half (by omega) ?_
    | refine arith_in (by omega) ?_
    | refine arith_u (by omega) ?_
    | refine need_i (p := (T.row _).eq = true) (by kernel_rfl) ?_
    | refine need_i (by omega) ?_
    | refine br_not ?_
    | refine br_dec (fun hd => ?_) (fun hd => ?_)
    | refine br_lt (fun hlt => ?_) (fun hlt => ?_)
    | refine br_le (fun hle => ?_) (fun hle => ?_)
    | refine br_eq (fun heq => ?_) (fun heq => ?_)
    | refine idx_map (by omega) (fun x hx => ?_)
    | refine live_i rfl (fun h => by cases h) ?_
    | refine branch_s (fun hbb => ?_) (fun hbb => ?_)
    | refine ret_i ?_
    | refine retB_i ?_)
  refine loop_i (A := Nat) (fun k => mkSt [(0, S s), (1, I k), (2, .fn g [])] [] []) (fun k => whS Kd s k = whS Kd s i) (fun k => s.size - k) i ?_ rfl (fun k hk => ?_)
  · refine le_mk ?_ ?_ ?_ ?_
    all_goals repeat' (first | exact trivial | refine And.intro ?_ ?_ | with_reducible rfl | exact Nat.le_refl _ | omega | exact rfl)
  · change whS Kd s k = whS Kd s i at hk
    rcases Nat.lt_or_ge k s.size with hlt | hge
    · obtain ⟨f, hf⟩ : ∃ f, s.size - k = f + 1 := ⟨s.size - k - 1, by omega⟩
      have hks : whS Kd s k = wh (fun j => decB (Kd (byteAt s j))) (f + 1) k := by unfold whS; rw [hf]
      repeat' ((conv => whnf); first
        | (exfalso; omega)
        | (refine call_i (hg (byteAt s k)) false ?_ rfl ?_; focus ((repeat' (first | exact trivial | refine And.intro ?_ ?_ | with_reducible rfl | exact (fun h => by cases h) | exact rfl)); done))
        | refine seq_go ?_
        | refine draw_i (by kernel_rfl) ?_
        | refine arith_half (by omega) ?_
        | refine arith_in (by omega) ?_
        | refine arith_u (by omega) ?_
        | refine need_i (p := (T.row _).eq = true) (by kernel_rfl) ?_
        | refine need_i (by omega) ?_
        | refine br_not ?_
        | refine br_dec (fun hd => ?_) (fun hd => ?_)
        | refine br_lt (fun hlt => ?_) (fun hlt => ?_)
        | refine br_le (fun hle => ?_) (fun hle => ?_)
        | refine br_eq (fun heq => ?_) (fun heq => ?_)
        | refine idx_map (by omega) (fun x hx => ?_)
        | refine live_i rfl (fun h => by cases h) ?_
        | refine branch_s (fun hbb => ?_) (fun hbb => ?_)
        | refine ret_i ?_
        | refine retB_i ?_)
      · conv => whnf
        refine ⟨k + 1, ?_, ?_, by omega⟩
        · refine le_mk ?_ ?_ ?_ ?_
          all_goals repeat' (first | exact trivial | refine And.intro ?_ ?_ | with_reducible rfl | exact Nat.le_refl _ | omega | exact rfl)
        · show whS Kd s (k + 1) = _
          rw [← hk, hks, wh_step (decB_t.2 hd)]
          unfold whS
          rw [show s.size - (k + 1) = f by omega]
      · conv => whnf
        refine ret_int ?_
        rw [← hk, hks, wh_stop (decB_f.2 hd)]
    · have hks : whS Kd s k = k := by unfold whS; rw [show s.size - k = 0 by omega]; rfl
      repeat' ((conv => whnf); first
        | (exfalso; omega)
        | refine seq_go ?_
        | refine draw_i (by kernel_rfl) ?_
        | refine arith_half (by omega) ?_
        | refine arith_in (by omega) ?_
        | refine arith_u (by omega) ?_
        | refine need_i (p := (T.row _).eq = true) (by kernel_rfl) ?_
        | refine need_i (by omega) ?_
        | refine br_not ?_
        | refine br_dec (fun hd => ?_) (fun hd => ?_)
        | refine br_lt (fun hlt => ?_) (fun hlt => ?_)
        | refine br_le (fun hle => ?_) (fun hle => ?_)
        | refine br_eq (fun heq => ?_) (fun heq => ?_)
        | refine idx_map (by omega) (fun x hx => ?_)
        | refine live_i rfl (fun h => by cases h) ?_
        | refine branch_s (fun hbb => ?_) (fun hbb => ?_)
        | refine ret_i ?_
        | refine retB_i ?_)
      conv => whnf
      refine ret_int ?_
      rw [← hk, hks]
theorem while_spec {g : FuncId} {Kd : Int → Prop} (hg : ∀ c, Sp g [U c] (.lit (.bool (decB (Kd c))))) (s : ByteArray) (i : Nat) (hs : s.size ≤ 1000000000) :
    Sp 72 [S s, I i, .fn g []] (I (whS Kd s i)) := sp_of Tryd.func72 (by kernel_rfl) (by kernel_rfl) (while_vc hg s i hs)

theorem size_zero {s : ByteArray} : s.size = 0 ↔ s = { data := #[] } := by
  obtain ⟨a⟩ := s
  constructor
  · intro h
    have : a = #[] := Array.eq_empty_of_size_eq_zero h
    rw [this]
  · intro h; rw [h]; rfl
theorem name_vc (s : ByteArray) : fnVC T Tryd.prog Tryd.f37 [S s] (.lit (.bool (decB (isName s)))) := by
  have hz := size_zero (s := s)
  rcases Nat.lt_or_ge 16 s.size with hbig | hsm
  · repeat' ((conv => whnf); first
      | refine br_eqS (fun heq => ?_) (fun heq => ?_)
      | (exfalso; omega)
      | refine seq_go ?_
      | refine draw_i (by kernel_rfl) ?_
      | refine arith_half (by omega) ?_
      | refine arith_in (by omega) ?_
      | refine arith_u (by omega) ?_
      | refine need_i (p := (T.row _).eq = true) (by kernel_rfl) ?_
      | refine need_i (by omega) ?_
      | refine br_not ?_
      | refine br_dec (fun hd => ?_) (fun hd => ?_)
      | refine br_lt (fun hlt => ?_) (fun hlt => ?_)
      | refine br_le (fun hle => ?_) (fun hle => ?_)
      | refine br_eq (fun heq => ?_) (fun heq => ?_)
      | refine idx_map (by omega) (fun x hx => ?_)
      | refine live_i rfl (fun h => by cases h) ?_
      | refine branch_s (fun hbb => ?_) (fun hbb => ?_)
      | refine ret_i ?_
      | refine retB_i ?_)
    all_goals (conv => whnf)
    all_goals refine ret_boolD ?_
    all_goals exact dec_retf (fun h => by have := h.2.1; omega)
  · repeat' ((conv => whnf); first
      | refine br_eqS (fun heq => ?_) (fun heq => ?_)
      | (exfalso; omega)
      | refine need_str ⟨by omega, by have := mt hz.1 heq; omega⟩ ?_
      | (refine call_i (letter_spec (byteAt s 0)) false ?_ rfl ?_; focus ((repeat' (first | exact trivial | refine And.intro ?_ ?_ | with_reducible rfl | exact (fun h => by cases h) | exact rfl)); done))
      | (refine call_i (while_spec inner_spec s 0 (by omega)) false ?_ rfl ?_; focus ((repeat' (first | exact trivial | refine And.intro ?_ ?_ | with_reducible rfl | exact (fun h => by cases h) | exact rfl)); done))
      | refine seq_go ?_
      | refine draw_i (by kernel_rfl) ?_
      | refine arith_half (by omega) ?_
      | refine arith_in (by omega) ?_
      | refine arith_u (by omega) ?_
      | refine need_i (p := (T.row _).eq = true) (by kernel_rfl) ?_
      | refine need_i (by omega) ?_
      | refine br_not ?_
      | refine br_dec (fun hd => ?_) (fun hd => ?_)
      | refine br_lt (fun hlt => ?_) (fun hlt => ?_)
      | refine br_le (fun hle => ?_) (fun hle => ?_)
      | refine br_eq (fun heq => ?_) (fun heq => ?_)
      | refine idx_map (by omega) (fun x hx => ?_)
      | refine live_i rfl (fun h => by cases h) ?_
      | refine branch_s (fun hbb => ?_) (fun hbb => ?_)
      | refine ret_i ?_
      | refine retB_i ?_)
    all_goals (conv => whnf)
    all_goals refine ret_boolD ?_
    · exact dec_retf (fun h => by have := h.1; have := hz.2 heq; omega)
    · refine eq_dec ?_
      have hw := wh_all (fun j => decB (isInner (byteAt s j))) s.size 0
      have hs0 : whS isInner s 0 = wh (fun j => decB (isInner (byteAt s j))) s.size 0 := rfl
      have hne := mt hz.1 heq
      rw [← hs0, Nat.zero_add] at hw
      have e : (((whS isInner s 0 : Nat) : Int) = (s.size : Int)) ↔ whS isInner s 0 = s.size := by omega
      show (((whS isInner s 0 : Nat) : Int) = (s.size : Int)) ↔ _
      rw [e, hw]
      constructor
      · intro h
        exact ⟨by omega, hsm, hd, fun i hi => decB_t.1 (h i (Nat.zero_le _) (by omega))⟩
      · intro h j _ hj
        exact decB_t.2 (h.2.2.2 j (by omega))
    · exact dec_retf (fun h => hd h.2.2.1)
theorem name_spec (s : ByteArray) : Sp 37 [S s] (.lit (.bool (decB (isName s)))) := sp_of Tryd.func37 (by kernel_rfl) (by kernel_rfl) (name_vc s)
end Go.Proofs.Cost58
