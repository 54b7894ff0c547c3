/-
  The work of the reference, walked.
-/
import Derived.Test.YtckcanemolkncaaDoorK3
set_option linter.unusedVariables false
set_option linter.unusedSimpArgs false
namespace Go.Proofs.Cost58
open Go Go.Proofs Go.Ab Pz
set_option maxRecDepth 100000

def progB : ByteArray := { data := #[112, 114, 111, 103, 114, 97, 109, 32] }
def timesB : ByteArray := { data := #[32, 120, 32] }
def turnB : ByteArray := { data := #[32, 116, 117, 114, 110, 32] }
def totalB : ByteArray := { data := #[116, 111, 116, 97, 108, 32] }
structure Pt where
  nm : ByteArray
  a : ByteArray
  b : Int
  c : List V
  d : List V
  e : List V
def ptV (p : Pt) : V := .agg [S p.nm, S p.a, I p.b, .sl p.c, .sl p.d, .sl p.e]
def ptN (ps : List Pt) (i : Int) : ByteArray := ((ps[i.toNat]?).map Pt.nm).getD ⟨#[]⟩
def lineB (ps : List Pt) (n : Nat) (k : Pl) : ByteArray := itoaB n ++ timesB ++ ptN ps k.1 ++ turnB ++ itoaB k.2.1
def kz (x : Pl) : Pl := (x.1, x.2.1, 0, 0)
def workB (nm : ByteArray) (ps : List Pt) (L : List Pl) (tot : Int) : List ByteArray :=
  [progB ++ nm] ++ (kinds plK kz L).map (fun k => lineB ps (cntK plK L k) k) ++ [totalB ++ itoaB tot]
def workOk (nm : ByteArray) (ps : List Pt) (L : List Pl) : Prop := isName nm ∧ ∀ x ∈ L, ¬ outP ps.length x
open Classical in
noncomputable def workR (nm : ByteArray) (ps : List Pt) (L : List Pl) (tot : Int) : List ByteArray × Int :=
  if 60 < L.length then ([], 9) else if workOk nm ps L then (workB nm ps L tot, 0) else ([], 6)
def billV (l : List Int) : V := .agg (l.map I)

theorem cntK_snoc {α : Type} (key : α → Int) (D : List α) (x k : α) : cntK key (D ++ [x]) k = if key x = key k then cntK key D k + 1 else cntK key D k := by
  unfold cntK
  rw [List.filter_append]
  by_cases h : key x = key k
  · rw [if_pos h, List.length_append]
    simp [List.filter, h]
  · rw [if_neg h, List.length_append]
    have : (key x == key k) = false := by simpa using h
    simp [List.filter, this]
theorem cntK_le {α : Type} (key : α → Int) (D : List α) (k : α) : cntK key D k ≤ D.length := List.length_filter_le _ _
theorem plK_inj {x y : Pl} (hx : plQ x) (hy : plQ y) : plK x = plK y ↔ x.1 = y.1 ∧ x.2.1 = y.2.1 := by
  unfold plQ at hx hy
  unfold plK
  omega
theorem plK_lt {x y : Pl} (hx : plQ x) (hy : plQ y) : plK x < plK y ↔ x.1 < y.1 ∨ (x.1 = y.1 ∧ x.2.1 < y.2.1) := by
  unfold plQ at hx hy
  unfold plK
  omega
theorem kinds_q {L : List Pl} (h : ∀ x ∈ L, plQ x) : ∀ k ∈ kinds plK kz L, plQ k := fun k hk => by
  obtain ⟨x, h1, rfl⟩ := (kinds_spec plK kz (fun _ => rfl) L).2.1 k hk
  exact h x h1
theorem kinds_in {n : Nat} {L : List Pl} (h : ∀ x ∈ L, ¬ outP n x) : ∀ k ∈ kinds plK kz L, ¬ outP n k := fun k hk => by
  obtain ⟨x, h1, rfl⟩ := (kinds_spec plK kz (fun _ => rfl) L).2.1 k hk
  exact h x h1
theorem insU_le {α : Type} (key : α → Int) (nz : α → α) (x : α) : ∀ K : List α, (insU key nz x K).length ≤ K.length + 1
  | [] => by simp [insU]
  | a :: K => by
    rw [insU]
    split
    · have := insU_le key nz x K
      simp only [List.length_cons]; omega
    · split <;> simp
theorem kinds_le {α : Type} (key : α → Int) (nz : α → α) (L : List α) : (kinds key nz L).length ≤ L.length := by
  have h : ∀ n, ∀ L : List α, L.length = n → (kinds key nz L).length ≤ n := by
    intro n
    induction n with
    | zero => intro L hL; rw [List.length_eq_zero_iff.1 hL]; simp [kinds]
    | succ n ih =>
      intro L hL
      rcases List.eq_nil_or_concat L with rfl | ⟨D, x, rfl⟩
      · simp at hL
      · rw [List.concat_eq_append] at hL ⊢
        rw [kinds_snoc]
        have := insU_le key nz x (kinds key nz D)
        have := ih D (by simp at hL; omega)
        omega
  exact h _ L rfl

theorem plc_td {K : List Pl} {n m : Nat} : ∀ y ∈ ((K.map plV).take n).drop m, y.cells.length = 4 := fun y hy => plc K y (List.mem_of_mem_take (List.mem_of_mem_drop hy))
theorem need_cap {bytes size : Nat} {l xs : List V} {K : Prop} (hb : bytes ≤ 10000) (h5 : ∀ x ∈ l ++ xs, x.cells.length = size) (h4 : l.length + xs.length ≤ 1000000000) (hk : K) :
    need ((l.length + xs.length) * bytes ≤ 140737488355328 ∧ l.length + xs.length ≤ 140737488355328 ∧ ∀ x ∈ l ++ xs, x.cells.length = size) K :=
  need_i ⟨Nat.le_trans (Nat.mul_le_mul h4 hb) (by decide), by omega, h5⟩ hk
theorem cells_ins {K : List Pl} {a b c d : Nat} {z : V} (hz : z.cells.length = 4) : ∀ y ∈ ((K.map plV).take a).drop b ++ ([z] ++ ((K.map plV).take c).drop d), y.cells.length = 4 := fun y hy => by
  rcases List.mem_append.1 hy with hy | hy
  · exact plc_td y hy
  · rcases List.mem_append.1 hy with hy | hy
    · rw [List.mem_singleton.1 hy]; exact hz
    · exact plc_td y hy
theorem ins_list {A B : List Pl} {K : List Pl} (x : Pl) (h : K = A ++ B) : ((K.map plV).take (A.length : Int).toNat).drop (0 : Int).toNat ++ ([plV (kz x)] ++ ((K.map plV).take ((K.map plV).length : Int).toNat).drop (A.length : Int).toNat) = (A ++ kz x :: B).map plV := by
  subst h
  have e : (((A ++ B).map plV).length : Int).toNat = ((A ++ B).map plV).length := Int.toNat_natCast _
  rw [e, List.take_length]
  simp
theorem need_cat {a b : ByteArray} {K : Prop} (ha : a.size ≤ 10000) (hb : b.size ≤ 10000) (hk : K) : need (a.size + b.size ≤ 9223372036854775807) K := need_i (by omega) hk
theorem sz_app {a b : ByteArray} {m n : Nat} (ha : a.size ≤ m) (hb : b.size ≤ n) (k : Nat := 10000) (h : m + n ≤ k := by decide) : (a ++ b).size ≤ k := by rw [ByteArray.size_append]; omega
theorem ptN_size {ps : List Pt} (h : ∀ p ∈ ps, p.nm.size ≤ 1000) (i : Int) : (ptN ps i).size ≤ 1000 := by
  unfold ptN
  cases he : ps[i.toNat]? with
  | none => simp; decide
  | some p => exact h p (List.mem_of_getElem? he)
theorem idx_pt {ps : List Pt} {i : Int} {n : Nat} {K : V → Prop} (h0 : 0 ≤ i) (h1 : i < ps.length) (hn : n = i.toNat) (hk : ∀ (a : ByteArray) (b : Int) (c d e : List V), K (.agg [S (ptN ps i), S a, I b, .sl c, .sl d, .sl e])) : idx (ps.map ptV) n K := by
  subst hn
  refine idx_map (by omega) (fun p hp => ?_)
  have e : ptN ps i = p.nm := by unfold ptN; rw [hp]; rfl
  have := hk p.a p.b p.c p.d p.e
  rw [e] at this
  exact this
theorem rwork_ret {nm : ByteArray} {ps : List Pt} {L : List Pl} {tot : Int} {ar : Nat → Option AE} {e : Int} (h : workR nm ps L tot = ([], e)) : ∃ ys, V.tup [.own 9 ((workR nm ps L tot).1.map S), I (workR nm ps L tot).2] = .tup ys ∧ giveL T ar ys [.lit (.slice none 0 0), I e] ∧ keysOk [.lit (.slice none 0 0), I e] ys = true := by
  rw [h]
  exact ⟨_, rfl, ⟨⟨of_decide_eq_true (by kernel_rfl), rfl⟩, rfl, trivial⟩, rfl⟩
set_option maxHeartbeats 2000000 in
theorem rwork_vc (nm : ByteArray) (ps : List Pt) (L : List Pl) (t0 t1 t2 t3 t4 tot : Int) (hnm : nm.size ≤ 1000) (hps : ∀ p ∈ ps, p.nm.size ≤ 1000) (hpl : ps.length ≤ 1000) (hq : ∀ x ∈ L, plQ x) (ht : 0 ≤ tot ∧ tot ≤ 1000000) :
    fnVC T Tryd.prog Tryd.f15 [S nm, .sl (ps.map ptV), .agg [.sl (L.map plV)], .agg [I t0, I t1, I t2, I t3, I t4, I tot]] (.tup [.own 9 ((workR nm ps L tot).1.map S), I (workR nm ps L tot).2]) := by
  have hll : (L.map plV).length = L.length := by simp
  have hpp : (ps.map ptV).length = ps.length := by simp
  rcases Nat.lt_or_ge 60 L.length with hbig | hsm
  · have hw : workR nm ps L tot = ([], 9) := by unfold workR; rw [if_pos hbig]
    repeat' ((conv => whnf); first
      | (exfalso; omega)
      | refine seq_go ?_
      | refine draw_i (by kernel_rfl) ?_
      | refine arith_half (by omega) ?_
      | refine arith_in (by omega) ?_
      | refine arith_u (by omega) ?_
      | refine need_i (p := (T.row _).eq = true) (by kernel_rfl) ?_
      | refine need_i (by omega) ?_
      | refine br_not ?_
      | refine br_dec (fun hd => ?_) (fun hd => ?_)
      | refine br_lt (fun hlt => ?_) (fun hlt => ?_)
      | refine br_le (fun hle => ?_) (fun hle => ?_)
      | refine br_eq (fun heq => ?_) (fun heq => ?_)
      | refine idx_map (by omega) (fun x hx => ?_)
      | refine live_i rfl (fun h => by cases h) ?_
      | refine branch_s (fun hbb => ?_) (fun hbb => ?_)
      | refine ret_i ?_)
    conv => whnf
    exact rwork_ret hw
  by_cases hn : isName nm
  case neg =>
    have hw : workR nm ps L tot = ([], 6) := by unfold workR; rw [if_neg (by omega), if_neg (fun h => hn h.1)]
    repeat' ((conv => whnf); first
      | (exfalso; omega)
      | (refine call_i (rname_spec nm) false ?_ rfl ?_; focus ((repeat' (first | exact trivial | refine And.intro ?_ ?_ | with_reducible rfl | exact (fun h => by cases h) | exact rfl)); done))
      | (exact (hn hd).elim)
      | refine seq_go ?_
      | refine draw_i (by kernel_rfl) ?_
      | refine arith_half (by omega) ?_
      | refine arith_in (by omega) ?_
      | refine arith_u (by omega) ?_
      | refine need_i (p := (T.row _).eq = true) (by kernel_rfl) ?_
      | refine need_i (by omega) ?_
      | refine br_not ?_
      | refine br_dec (fun hd => ?_) (fun hd => ?_)
      | refine br_lt (fun hlt => ?_) (fun hlt => ?_)
      | refine br_le (fun hle => ?_) (fun hle => ?_)
      | refine br_eq (fun heq => ?_) (fun heq => ?_)
      | refine idx_map (by omega) (fun x hx => ?_)
      | refine live_i rfl (fun h => by cases h) ?_
      | refine branch_s (fun hbb => ?_) (fun hbb => ?_)
      | refine ret_i ?_)
    conv => whnf
    exact rwork_ret hw
  repeat' ((conv => whnf); first
    | (exfalso; omega)
    | (refine call_i (rname_spec nm) false ?_ rfl ?_; focus ((repeat' (first | exact trivial | refine And.intro ?_ ?_ | with_reducible rfl | exact (fun h => by cases h) | exact rfl)); done))
    | (exact (hd hn).elim)
    | refine seq_go ?_
    | refine draw_i (by kernel_rfl) ?_
    | refine arith_half (by omega) ?_
    | refine arith_in (by omega) ?_
    | refine arith_u (by omega) ?_
    | refine need_i (p := (T.row _).eq = true) (by kernel_rfl) ?_
    | refine need_i (by omega) ?_
    | refine br_not ?_
    | refine br_dec (fun hd => ?_) (fun hd => ?_)
    | refine br_lt (fun hlt => ?_) (fun hlt => ?_)
    | refine br_le (fun hle => ?_) (fun hle => ?_)
    | refine br_eq (fun heq => ?_) (fun heq => ?_)
    | refine idx_map (by omega) (fun x hx => ?_)
    | refine live_i rfl (fun h => by cases h) ?_
    | refine branch_s (fun hbb => ?_) (fun hbb => ?_)
    | refine ret_i ?_)
  refine loop_2 (A := List Pl) (B := List Pl) (fun D R => mkSt [(0, S nm), (1, .sl (ps.map ptV)), (6, .box 6 0), (7, .box 7 0), (10, .sl ((kinds plK kz D).map plV)), (11, I D.length)] [(6, [.sl (L.map plV)]), (7, [I t0, I t1, I t2, I t3, I t4, I tot])] [])
    (fun D R => L = D ++ R ∧ ∀ x ∈ D, ¬ outP ps.length x) (fun D R => R.length) [] L ?_ ⟨rfl, by simp⟩ (fun D R hp => ?_)
  · refine le_mk ?_ ?_ ?_ ?_
    all_goals repeat' (first | exact trivial | refine And.intro ?_ ?_ | with_reducible rfl | exact Nat.le_refl _ | omega | exact rfl)
  obtain ⟨h1, h2⟩ := hp
  have hlen : L.length = D.length + R.length := by rw [h1]; simp
  cases R with
  | cons x R =>
    rw [List.length_cons] at hlen
    have hxL : x ∈ L := by rw [h1]; simp
    have hqx := hq x hxL
    have hqK := kinds_q (L := D) (fun y hy => hq y (by rw [h1]; simp [hy]))
    have hKl := kinds_le plK kz D
    have hnew := kinds_snoc plK kz D x
    generalize kinds plK kz D = K at hqK hKl hnew
    have hKm : (K.map plV).length = K.length := by simp
    by_cases hout : outP ps.length x
    case pos =>
      have hw : workR nm ps L tot = ([], 6) := by unfold workR; rw [if_neg (by omega), if_neg (fun h => h.2 x hxL hout)]
      unfold outP at hout
      repeat' ((conv => whnf); first
        | (exfalso; omega)
        | refine idx_mid (l := L) (A := D) (x := x) (B := R) h1 (by omega) ?_
        | refine seq_go ?_
        | refine draw_i (by kernel_rfl) ?_
        | refine arith_half (by omega) ?_
        | refine arith_in (by omega) ?_
        | refine arith_u (by omega) ?_
        | refine need_i (p := (T.row _).eq = true) (by kernel_rfl) ?_
        | refine need_i (by omega) ?_
        | refine br_not ?_
        | refine br_dec (fun hd => ?_) (fun hd => ?_)
        | refine br_lt (fun hlt => ?_) (fun hlt => ?_)
        | refine br_le (fun hle => ?_) (fun hle => ?_)
        | refine br_eq (fun heq => ?_) (fun heq => ?_)
        | refine idx_map (by omega) (fun x hx => ?_)
        | refine live_i rfl (fun h => by cases h) ?_
        | refine branch_s (fun hbb => ?_) (fun hbb => ?_)
        | refine ret_i ?_)
      all_goals (conv => whnf)
      all_goals exact rwork_ret hw
    have hout' := hout
    unfold outP at hout'
    repeat' ((conv => whnf); first
      | (exfalso; omega)
      | refine idx_mid (l := L) (A := D) (x := x) (B := R) h1 (by omega) ?_
      | refine seq_go ?_
      | refine draw_i (by kernel_rfl) ?_
      | refine arith_half (by omega) ?_
      | refine arith_in (by omega) ?_
      | refine arith_u (by omega) ?_
      | refine need_i (p := (T.row _).eq = true) (by kernel_rfl) ?_
      | refine need_i (by omega) ?_
      | refine br_not ?_
      | refine br_dec (fun hd => ?_) (fun hd => ?_)
      | refine br_lt (fun hlt => ?_) (fun hlt => ?_)
      | refine br_le (fun hle => ?_) (fun hle => ?_)
      | refine br_eq (fun heq => ?_) (fun heq => ?_)
      | refine idx_map (by omega) (fun x hx => ?_)
      | refine live_i rfl (fun h => by cases h) ?_
      | refine branch_s (fun hbb => ?_) (fun hbb => ?_)
      | refine ret_i ?_)
    refine loop_2 (A := List Pl) (B := List Pl) (fun A B => mkSt [(0, S nm), (1, .sl (ps.map ptV)), (6, .box 6 0), (7, .box 7 0), (10, .sl (K.map plV)), (11, I D.length), (12, .box 12 0), (13, I A.length)] [(6, [.sl (L.map plV)]), (7, [I t0, I t1, I t2, I t3, I t4, I tot]), (12, [I x.1, I x.2.1, I x.2.2.1, I x.2.2.2])] [])
      (fun A B => K = A ++ B ∧ ∀ a ∈ A, plK a < plK x) (fun A B => B.length) [] K ?_ ⟨rfl, by simp⟩ (fun A B hp => ?_)
    · refine le_mk ?_ ?_ ?_ ?_
      all_goals repeat' (first | exact trivial | refine And.intro ?_ ?_ | with_reducible rfl | exact Nat.le_refl _ | omega | exact rfl)
    obtain ⟨g1, g2⟩ := hp
    have hKlen : K.length = A.length + B.length := by rw [g1]; simp
    have hcut := insU_cut plK kz (x := x) A B g2
    rw [← g1] at hcut
    cases B with
    | nil =>
      simp at hKlen
      repeat' ((conv => whnf); first
        | (exfalso; omega)
        | refine need_i ⟨by omega, by omega, by omega, .inr (plc K)⟩ ?_
        | refine need_app rfl (.inl rfl) rfl (of_decide_eq_true rfl) plc_td (by show 1 + (List.drop _ (List.take _ (List.map plV K))).length ≤ _; rw [List.length_drop, List.length_take, List.length_map]; omega) ?_
        | refine need_cap (of_decide_eq_true rfl) (cells_ins (K := K) (z := plV (kz x)) rfl) (by show (List.drop _ (List.take _ (List.map plV K))).length + ((List.drop _ (List.take _ (List.map plV K))).length + 1) ≤ _; rw [List.length_drop, List.length_take, List.length_drop, List.length_take, List.length_map]; omega) ?_
        | refine seq_go ?_
        | refine draw_i (by kernel_rfl) ?_
        | refine arith_half (by omega) ?_
        | refine arith_in (by omega) ?_
        | refine arith_u (by omega) ?_
        | refine need_i (p := (T.row _).eq = true) (by kernel_rfl) ?_
        | refine need_i (by omega) ?_
        | refine br_not ?_
        | refine br_dec (fun hd => ?_) (fun hd => ?_)
        | refine br_lt (fun hlt => ?_) (fun hlt => ?_)
        | refine br_le (fun hle => ?_) (fun hle => ?_)
        | refine br_eq (fun heq => ?_) (fun heq => ?_)
        | refine idx_map (by omega) (fun x hx => ?_)
        | refine live_i rfl (fun h => by cases h) ?_
        | refine branch_s (fun hbb => ?_) (fun hbb => ?_)
        | refine ret_i ?_)
      all_goals (conv => whnf)
      · refine ⟨(D ++ [x], R), ?_, ⟨?_, ?_⟩, ?_⟩
        · refine Le.trans (le_frz (k := 123) rfl (.inr rfl)) ?_
          refine le_mk ?_ ?_ ?_ ?_
          all_goals repeat' (first | exact trivial | refine And.intro ?_ ?_ | with_reducible rfl | exact Nat.le_refl _ | omega | exact rfl)
          · refine (ins_list (K := K) x g1).trans ?_
            show List.map plV (A ++ kz x :: []) = List.map plV (kinds plK kz (D ++ [x]))
            rw [hnew, hcut, insU]
          · show (D.length : Int) + 1 = (D ++ [x]).length
            simp
        · show L = D ++ [x] ++ R
          rw [h1]; simp
        · intro m hm
          rcases List.mem_append.1 hm with hm | hm
          · exact h2 m hm
          · rw [List.mem_singleton.1 hm]; exact hout
        · show R.length < (x :: R).length
          simp
    | cons b B =>
      rw [List.length_cons] at hKlen
      have hqb := hqK b (by rw [g1]; simp)
      have klt := plK_lt hqb hqx
      have keq := plK_inj hqb hqx
      repeat' ((conv => whnf); first
        | (exfalso; omega)
        | refine idx_mid (l := K) (A := A) (x := b) (B := B) g1 (by omega) ?_
        | refine need_i ⟨by omega, by omega, by omega, .inr (plc K)⟩ ?_
        | refine need_app rfl (.inl rfl) rfl (of_decide_eq_true rfl) plc_td (by show 1 + (List.drop _ (List.take _ (List.map plV K))).length ≤ _; rw [List.length_drop, List.length_take, List.length_map]; omega) ?_
        | refine need_cap (of_decide_eq_true rfl) (cells_ins (K := K) (z := plV (kz x)) rfl) (by show (List.drop _ (List.take _ (List.map plV K))).length + ((List.drop _ (List.take _ (List.map plV K))).length + 1) ≤ _; rw [List.length_drop, List.length_take, List.length_drop, List.length_take, List.length_map]; omega) ?_
        | refine seq_go ?_
        | refine draw_i (by kernel_rfl) ?_
        | refine arith_half (by omega) ?_
        | refine arith_in (by omega) ?_
        | refine arith_u (by omega) ?_
        | refine need_i (p := (T.row _).eq = true) (by kernel_rfl) ?_
        | refine need_i (by omega) ?_
        | refine br_not ?_
        | refine br_dec (fun hd => ?_) (fun hd => ?_)
        | refine br_lt (fun hlt => ?_) (fun hlt => ?_)
        | refine br_le (fun hle => ?_) (fun hle => ?_)
        | refine br_eq (fun heq => ?_) (fun heq => ?_)
        | refine idx_map (by omega) (fun x hx => ?_)
        | refine live_i rfl (fun h => by cases h) ?_
        | refine branch_s (fun hbb => ?_) (fun hbb => ?_)
        | refine ret_i ?_)
      all_goals (conv => whnf)
      · refine ⟨(A ++ [b], B), ?_, ⟨?_, ?_⟩, ?_⟩
        · refine le_mk ?_ ?_ ?_ ?_
          all_goals repeat' (first | exact trivial | refine And.intro ?_ ?_ | with_reducible rfl | exact Nat.le_refl _ | omega | exact rfl)
          all_goals (show (A.length : Int) + 1 = (A ++ [b]).length; simp)
        · show K = A ++ [b] ++ B
          rw [g1]; simp
        · intro m hm
          rcases List.mem_append.1 hm with hm | hm
          · exact g2 m hm
          · rw [List.mem_singleton.1 hm]; exact klt.2 (by omega)
        · show B.length < (b :: B).length
          simp
      · refine ⟨(A ++ [b], B), ?_, ⟨?_, ?_⟩, ?_⟩
        · refine le_mk ?_ ?_ ?_ ?_
          all_goals repeat' (first | exact trivial | refine And.intro ?_ ?_ | with_reducible rfl | exact Nat.le_refl _ | omega | exact rfl)
          all_goals (show (A.length : Int) + 1 = (A ++ [b]).length; simp)
        · show K = A ++ [b] ++ B
          rw [g1]; simp
        · intro m hm
          rcases List.mem_append.1 hm with hm | hm
          · exact g2 m hm
          · rw [List.mem_singleton.1 hm]; exact klt.2 (by omega)
        · show B.length < (b :: B).length
          simp
      · refine ⟨(D ++ [x], R), ?_, ⟨?_, ?_⟩, ?_⟩
        · refine le_mk ?_ ?_ ?_ ?_
          all_goals repeat' (first | exact trivial | refine And.intro ?_ ?_ | with_reducible rfl | exact Nat.le_refl _ | omega | exact rfl)
          · show List.map plV K = List.map plV (kinds plK kz (D ++ [x]))
            rw [hnew, hcut, insU, if_neg (by omega), if_pos (keq.2 (by omega)), ← g1]
          · show (D.length : Int) + 1 = (D ++ [x]).length
            simp
        · show L = D ++ [x] ++ R
          rw [h1]; simp
        · intro m hm
          rcases List.mem_append.1 hm with hm | hm
          · exact h2 m hm
          · rw [List.mem_singleton.1 hm]; exact hout
        · show R.length < (x :: R).length
          simp
      · refine ⟨(D ++ [x], R), ?_, ⟨?_, ?_⟩, ?_⟩
        · refine Le.trans (le_frz (k := 123) rfl (.inr rfl)) ?_
          refine le_mk ?_ ?_ ?_ ?_
          all_goals repeat' (first | exact trivial | refine And.intro ?_ ?_ | with_reducible rfl | exact Nat.le_refl _ | omega | exact rfl)
          · refine (ins_list (K := K) x g1).trans ?_
            show List.map plV (A ++ kz x :: b :: B) = List.map plV (kinds plK kz (D ++ [x]))
            rw [hnew, hcut, insU, if_neg (by omega), if_neg (by omega)]
          · show (D.length : Int) + 1 = (D ++ [x]).length
            simp
        · show L = D ++ [x] ++ R
          rw [h1]; simp
        · intro m hm
          rcases List.mem_append.1 hm with hm | hm
          · exact h2 m hm
          · rw [List.mem_singleton.1 hm]; exact hout
        · show R.length < (x :: R).length
          simp
      · refine ⟨(D ++ [x], R), ?_, ⟨?_, ?_⟩, ?_⟩
        · refine Le.trans (le_frz (k := 123) rfl (.inr rfl)) ?_
          refine le_mk ?_ ?_ ?_ ?_
          all_goals repeat' (first | exact trivial | refine And.intro ?_ ?_ | with_reducible rfl | exact Nat.le_refl _ | omega | exact rfl)
          · refine (ins_list (K := K) x g1).trans ?_
            show List.map plV (A ++ kz x :: b :: B) = List.map plV (kinds plK kz (D ++ [x]))
            rw [hnew, hcut, insU, if_neg (by omega), if_neg (by omega)]
          · show (D.length : Int) + 1 = (D ++ [x]).length
            simp
        · show L = D ++ [x] ++ R
          rw [h1]; simp
        · intro m hm
          rcases List.mem_append.1 hm with hm | hm
          · exact h2 m hm
          · rw [List.mem_singleton.1 hm]; exact hout
        · show R.length < (x :: R).length
          simp
  | nil =>
    have e : L = D := by rw [h1]; simp
    subst e
    have hKq := kinds_q hq
    have hKin := kinds_in h2
    have hKl := kinds_le plK kz L
    have hw : workR nm ps L tot = (workB nm ps L tot, 0) := by unfold workR; rw [if_neg (by omega), if_pos ⟨hn, h2⟩]
    unfold workB at hw
    generalize kinds plK kz L = K at hKq hKin hKl hw ⊢
    have hKm : (K.map plV).length = K.length := by simp
    repeat' ((conv => whnf); first
      | (exfalso; omega)
      | refine need_cat (a := progB) (by decide) (by omega) ?_
      | refine seq_go ?_
      | refine draw_i (by kernel_rfl) ?_
      | refine arith_half (by omega) ?_
      | refine arith_in (by omega) ?_
      | refine arith_u (by omega) ?_
      | refine need_i (p := (T.row _).eq = true) (by kernel_rfl) ?_
      | refine need_i (by omega) ?_
      | refine br_not ?_
      | refine br_dec (fun hd => ?_) (fun hd => ?_)
      | refine br_lt (fun hlt => ?_) (fun hlt => ?_)
      | refine br_le (fun hle => ?_) (fun hle => ?_)
      | refine br_eq (fun heq => ?_) (fun heq => ?_)
      | refine idx_map (by omega) (fun x hx => ?_)
      | refine live_i rfl (fun h => by cases h) ?_
      | refine branch_s (fun hbb => ?_) (fun hbb => ?_)
      | refine ret_i ?_)
    refine loop_2 (A := List Pl) (B := List Pl) (fun A B => mkSt [(1, .sl (ps.map ptV)), (6, .box 6 0), (7, .box 7 0), (10, .sl (K.map plV)), (14, .arr 126 A.length), (15, I A.length)] [(6, [.sl (L.map plV)]), (7, [I t0, I t1, I t2, I t3, I t4, I tot])] [(126, ⟨A.length, .own, 9, ([progB ++ nm] ++ A.map (fun k => lineB ps (cntK plK L k) k)).map S⟩)])
      (fun A B => K = A ++ B) (fun A B => B.length) [] K ?_ rfl (fun A B hp => ?_)
    · refine le_mk ?_ ?_ ?_ ?_
      all_goals repeat' (first | exact trivial | refine And.intro ?_ ?_ | with_reducible rfl | exact Nat.le_refl _ | omega | exact rfl)
    have g1 : K = A ++ B := hp
    have hKlen : K.length = A.length + B.length := by rw [g1]; simp
    cases B with
    | nil =>
      simp at hKlen
      have hA : K = A := by rw [g1]; simp
      have hz := itoaB_size tot (by omega) (by omega)
      repeat' ((conv => whnf); first
        | (exfalso; omega)
        | (refine call_i (ritoa_spec tot (by omega) (by omega)) false ?_ rfl ?_; focus ((repeat' (first | exact trivial | refine And.intro ?_ ?_ | with_reducible rfl | exact (fun h => by cases h) | exact rfl)); done))
        | refine need_cat (a := totalB) (by decide) (by omega) ?_
        | refine need_app rfl (.inl rfl) rfl (of_decide_eq_true rfl) (one_cells rfl) (by show (List.map S ([progB ++ nm] ++ List.map _ A)).length + 1 ≤ _; rw [List.length_map, List.length_append, List.length_map, List.length_singleton]; omega) ?_
        | refine seq_go ?_
        | refine draw_i (by kernel_rfl) ?_
        | refine arith_half (by omega) ?_
        | refine arith_in (by omega) ?_
        | refine arith_u (by omega) ?_
        | refine need_i (p := (T.row _).eq = true) (by kernel_rfl) ?_
        | refine need_i (by omega) ?_
        | refine br_not ?_
        | refine br_dec (fun hd => ?_) (fun hd => ?_)
        | refine br_lt (fun hlt => ?_) (fun hlt => ?_)
        | refine br_le (fun hle => ?_) (fun hle => ?_)
        | refine br_eq (fun heq => ?_) (fun heq => ?_)
        | refine idx_map (by omega) (fun x hx => ?_)
        | refine live_i rfl (fun h => by cases h) ?_
        | refine branch_s (fun hbb => ?_) (fun hbb => ?_)
        | refine ret_i ?_)
      conv => whnf
      rw [hw]
      refine ⟨_, rfl, ⟨⟨rfl, rfl, rfl, ?_⟩, rfl, trivial⟩, rfl⟩
      show List.map S ([progB ++ nm] ++ List.map (fun k => lineB ps (cntK plK L k) k) A) ++ [S (totalB ++ itoaB tot)] = List.map S ([progB ++ nm] ++ List.map (fun k => lineB ps (cntK plK L k) k) K ++ [totalB ++ itoaB tot])
      rw [hA, List.map_append (l₂ := [totalB ++ itoaB tot])]; rfl
    | cons k B =>
      rw [List.length_cons] at hKlen
      have hqk := hKq k (by rw [g1]; simp)
      have hink := hKin k (by rw [g1]; simp)
      unfold outP at hink
      repeat' ((conv => whnf); first
        | (exfalso; omega)
        | refine seq_go ?_
        | refine draw_i (by kernel_rfl) ?_
        | refine arith_half (by omega) ?_
        | refine arith_in (by omega) ?_
        | refine arith_u (by omega) ?_
        | refine need_i (p := (T.row _).eq = true) (by kernel_rfl) ?_
        | refine need_i (by omega) ?_
        | refine br_not ?_
        | refine br_dec (fun hd => ?_) (fun hd => ?_)
        | refine br_lt (fun hlt => ?_) (fun hlt => ?_)
        | refine br_le (fun hle => ?_) (fun hle => ?_)
        | refine br_eq (fun heq => ?_) (fun heq => ?_)
        | refine idx_map (by omega) (fun x hx => ?_)
        | refine live_i rfl (fun h => by cases h) ?_
        | refine branch_s (fun hbb => ?_) (fun hbb => ?_)
        | refine ret_i ?_)
      refine loop_2 (A := List Pl) (B := List Pl) (fun X Y => mkSt [(1, .sl (ps.map ptV)), (6, .box 6 0), (7, .box 7 0), (10, .sl (K.map plV)), (14, .arr 126 A.length), (15, I A.length), (16, I (cntK plK X k)), (17, I X.length)] [(6, [.sl (L.map plV)]), (7, [I t0, I t1, I t2, I t3, I t4, I tot])] [(126, ⟨A.length, .own, 9, ([progB ++ nm] ++ A.map (fun k => lineB ps (cntK plK L k) k)).map S⟩)])
        (fun X Y => L = X ++ Y) (fun X Y => Y.length) [] L ?_ rfl (fun X Y hp => ?_)
      · refine le_mk ?_ ?_ ?_ ?_
        all_goals repeat' (first | exact trivial | refine And.intro ?_ ?_ | with_reducible rfl | exact Nat.le_refl _ | omega | exact rfl)
      have f1 : L = X ++ Y := hp
      have hLlen : L.length = X.length + Y.length := by rw [f1]; simp
      cases Y with
      | cons y Y =>
        rw [List.length_cons] at hLlen
        have hqy := hq y (by rw [f1]; simp)
        have keq := plK_inj hqy hqk
        have hc := cntK_snoc plK X y k
        have hcl := cntK_le plK X k
        repeat' ((conv => whnf); first
          | (exfalso; omega)
          | refine idx_mid (l := L) (A := X) (x := y) (B := Y) f1 (by omega) ?_
          | refine idx_mid (l := K) (A := A) (x := k) (B := B) g1 (by omega) ?_
          | refine seq_go ?_
          | refine draw_i (by kernel_rfl) ?_
          | refine arith_half (by omega) ?_
          | refine arith_in (by omega) ?_
          | refine arith_u (by omega) ?_
          | refine need_i (p := (T.row _).eq = true) (by kernel_rfl) ?_
          | refine need_i (by omega) ?_
          | refine br_not ?_
          | refine br_dec (fun hd => ?_) (fun hd => ?_)
          | refine br_lt (fun hlt => ?_) (fun hlt => ?_)
          | refine br_le (fun hle => ?_) (fun hle => ?_)
          | refine br_eq (fun heq => ?_) (fun heq => ?_)
          | refine idx_map (by omega) (fun x hx => ?_)
          | refine live_i rfl (fun h => by cases h) ?_
          | refine branch_s (fun hbb => ?_) (fun hbb => ?_)
          | refine ret_i ?_)
        all_goals (conv => whnf)
        · refine ⟨(X ++ [y], Y), ?_, ?_, ?_⟩
          · refine le_mk ?_ ?_ ?_ ?_
            all_goals repeat' (first | exact trivial | refine And.intro ?_ ?_ | with_reducible rfl | exact Nat.le_refl _ | omega | exact rfl)
            all_goals first
              | (show (X.length : Int) + 1 = (X ++ [y]).length; simp; done)
              | (show ((cntK plK X k : Nat) : Int) + 1 = (cntK plK (X ++ [y]) k : Nat); rw [hc, if_pos (keq.2 (by omega))]; simp; done)
              | (show ((cntK plK X k : Nat) : Int) = (cntK plK (X ++ [y]) k : Nat); rw [hc, if_neg (by rw [keq]; omega)]; done)
          · show L = X ++ [y] ++ Y
            rw [f1]; simp
          · show Y.length < (y :: Y).length
            simp
        · refine ⟨(X ++ [y], Y), ?_, ?_, ?_⟩
          · refine le_mk ?_ ?_ ?_ ?_
            all_goals repeat' (first | exact trivial | refine And.intro ?_ ?_ | with_reducible rfl | exact Nat.le_refl _ | omega | exact rfl)
            all_goals first
              | (show (X.length : Int) + 1 = (X ++ [y]).length; simp; done)
              | (show ((cntK plK X k : Nat) : Int) + 1 = (cntK plK (X ++ [y]) k : Nat); rw [hc, if_pos (keq.2 (by omega))]; simp; done)
              | (show ((cntK plK X k : Nat) : Int) = (cntK plK (X ++ [y]) k : Nat); rw [hc, if_neg (by rw [keq]; omega)]; done)
          · show L = X ++ [y] ++ Y
            rw [f1]; simp
          · show Y.length < (y :: Y).length
            simp
        · refine ⟨(X ++ [y], Y), ?_, ?_, ?_⟩
          · refine le_mk ?_ ?_ ?_ ?_
            all_goals repeat' (first | exact trivial | refine And.intro ?_ ?_ | with_reducible rfl | exact Nat.le_refl _ | omega | exact rfl)
            all_goals first
              | (show (X.length : Int) + 1 = (X ++ [y]).length; simp; done)
              | (show ((cntK plK X k : Nat) : Int) + 1 = (cntK plK (X ++ [y]) k : Nat); rw [hc, if_pos (keq.2 (by omega))]; simp; done)
              | (show ((cntK plK X k : Nat) : Int) = (cntK plK (X ++ [y]) k : Nat); rw [hc, if_neg (by rw [keq]; omega)]; done)
          · show L = X ++ [y] ++ Y
            rw [f1]; simp
          · show Y.length < (y :: Y).length
            simp
      | nil =>
        simp at hLlen
        have hX : L = X := by rw [f1]; simp
        have hcl := cntK_le plK L k
        rw [← hX]
        have hz1 := itoaB_size (cntK plK L k) (by omega) (by omega)
        have hz2 := itoaB_size k.2.1 (by unfold plQ at hqk; omega) (by unfold plQ at hqk; omega)
        have hz3 := ptN_size hps k.1
        have z1 : (itoaB (cntK plK L k) ++ timesB).size ≤ 100 := sz_app hz1 (n := 3) (by decide) 100 (by decide)
        have z2 : (itoaB (cntK plK L k) ++ timesB ++ ptN ps k.1).size ≤ 2000 := sz_app z1 hz3 2000 (by decide)
        have z3 : (itoaB (cntK plK L k) ++ timesB ++ ptN ps k.1 ++ turnB).size ≤ 3000 := sz_app z2 (n := 6) (by decide) 3000 (by decide)
        repeat' ((conv => whnf); first
          | (exfalso; omega)
          | (refine call_i (ritoa_spec (cntK plK L k) (by omega) (by omega)) false ?_ rfl ?_; focus ((repeat' (first | exact trivial | refine And.intro ?_ ?_ | with_reducible rfl | exact (fun h => by cases h) | exact rfl)); done))
          | (refine call_i (ritoa_spec k.2.1 (by unfold plQ at hqk; omega) (by unfold plQ at hqk; omega)) false ?_ rfl ?_; focus ((repeat' (first | exact trivial | refine And.intro ?_ ?_ | with_reducible rfl | exact (fun h => by cases h) | exact rfl)); done))
          | refine idx_mid (l := K) (A := A) (x := k) (B := B) g1 (by omega) ?_
          | refine idx_pt (ps := ps) (i := k.1) (by omega) (by omega) rfl (fun _ _ _ _ _ => ?_)
          | refine need_cat (a := itoaB (cntK plK L k)) (b := timesB) (by omega) (by decide) ?_
          | refine need_cat (b := ptN ps k.1) (Nat.le_trans z1 (by decide)) (by omega) ?_
          | refine need_cat (b := turnB) (Nat.le_trans z2 (by decide)) (by decide) ?_
          | refine need_cat (b := itoaB k.2.1) (Nat.le_trans z3 (by decide)) (by omega) ?_
          | refine need_app rfl (.inl rfl) rfl (of_decide_eq_true rfl) (one_cells rfl) (by show (List.map S ([progB ++ nm] ++ List.map _ A)).length + 1 ≤ _; rw [List.length_map, List.length_append, List.length_map, List.length_singleton]; omega) ?_
          | refine seq_go ?_
          | refine draw_i (by kernel_rfl) ?_
          | refine arith_half (by omega) ?_
          | refine arith_in (by omega) ?_
          | refine arith_u (by omega) ?_
          | refine need_i (p := (T.row _).eq = true) (by kernel_rfl) ?_
          | refine need_i (by omega) ?_
          | refine br_not ?_
          | refine br_dec (fun hd => ?_) (fun hd => ?_)
          | refine br_lt (fun hlt => ?_) (fun hlt => ?_)
          | refine br_le (fun hle => ?_) (fun hle => ?_)
          | refine br_eq (fun heq => ?_) (fun heq => ?_)
          | refine idx_map (by omega) (fun x hx => ?_)
          | refine live_i rfl (fun h => by cases h) ?_
          | refine branch_s (fun hbb => ?_) (fun hbb => ?_)
          | refine ret_i ?_)
        conv => whnf
        refine ⟨(A ++ [k], B), ?_, ?_, ?_⟩
        · refine le_mk ?_ ?_ ?_ ?_
          all_goals repeat' (first | exact trivial | refine And.intro ?_ ?_ | with_reducible rfl | exact Nat.le_refl _ | omega | exact rfl)
          all_goals first
            | (show A.length + 1 = (A ++ [k]).length; simp; done)
            | (show (A.length : Int) + 1 = (A ++ [k]).length; simp; done)
            | (show List.map S ([progB ++ nm] ++ List.map (fun k => lineB ps (cntK plK L k) k) A) ++ [S (lineB ps (cntK plK L k) k)] = List.map S ([progB ++ nm] ++ List.map (fun k => lineB ps (cntK plK L k) k) (A ++ [k])); simp; done)
        · show K = A ++ [k] ++ B
          rw [g1]; simp
        · show B.length < (k :: B).length
          simp
theorem rwork_spec (nm : ByteArray) (ps : List Pt) (L : List Pl) (t0 t1 t2 t3 t4 tot : Int) (hnm : nm.size ≤ 1000) (hps : ∀ p ∈ ps, p.nm.size ≤ 1000) (hpl : ps.length ≤ 1000) (hq : ∀ x ∈ L, plQ x) (ht : 0 ≤ tot ∧ tot ≤ 1000000) :
    Sp 15 [S nm, .sl (ps.map ptV), .agg [.sl (L.map plV)], .agg [I t0, I t1, I t2, I t3, I t4, I tot]] (.tup [.own 9 ((workR nm ps L tot).1.map S), I (workR nm ps L tot).2]) := sp_of Tryd.func15 (by kernel_rfl) (by kernel_rfl) (rwork_vc nm ps L t0 t1 t2 t3 t4 tot hnm hps hpl hq ht)
end Go.Proofs.Cost58
