/-
  Contracts of the library: cutting strings, numbers out of numerals; they look at variables of the library.
  Reading a label: words and numbers.
-/
import Derived.Test.YtckcanemolkncaaDoorL2
import Derived.Test.YtckcanemolkncaaDoorL3
set_option linter.unusedVariables false
set_option linter.unusedSimpArgs false
namespace Go.Proofs.Cost58
open Go Go.Proofs Go.Ab Go.RowKit
set_option maxRecDepth 100000

/-- what is known of the library's variables, the errors of numerals and a length among them -/
structure LayQ (w : World) (F : Nat → Prop) : Prop where
  lp : LayP w F
  ml : F 0 ∧ ∃ m t z, w.heap[0]? = some (.cells #[.int .i64 m] t z)
  es : F 1 ∧ ∃ te pe t z, w.heap[1]? = some (.cells #[.iface te pe] t z)
  er : F 2 ∧ ∃ te pe t z, w.heap[2]? = some (.cells #[.iface te pe] t z)
theorem layQ_mono {w w' : World} {F F' : Nat → Prop} (h : ∀ b, F b → F' b ∧ w'.heap[b]? = w.heap[b]?) (l : LayQ w F) : LayQ w' F' :=
  ⟨layP_mono h l.lp, ⟨(h _ l.ml.1).1, by rw [(h _ l.ml.1).2]; exact l.ml.2⟩, ⟨(h _ l.es.1).1, by rw [(h _ l.es.1).2]; exact l.es.2⟩, ⟨(h _ l.er.1).1, by rw [(h _ l.er.1).2]; exact l.er.2⟩⟩
noncomputable def T2 : Tab := tabOfR Tryd.prog 246 [0, 25, 43, 52, 57, 68, 80, 88, 92, 95, 114, 117, 142, 147, 150, 161, 182, 187, 195, 202, 214, 223, 225] LayQ layQ_mono [62, 64]
theorem tabOk2 : TabOk T2 Tryd.prog := tabOk
abbrev Sq (f : FuncId) (ys : List V) (r : V) : Prop := Go.Ab.Spec T2 Tryd.prog f ys r
theorem sq_of {f : FuncId} {fn : Func} {ys : List V} {r : V} (hf : Tryd.prog.funcs[f]? = some fn) (hc : callable Tryd.prog f = true) (hn : Nat.ble ys.length fn.ntmps = true) (h : fnVC T2 Tryd.prog fn ys r) : Sq f ys r :=
  fn_sound tabOk2 mixed hf hc (Nat.le_of_ble_eq_true hn) h
abbrev SqB (f : FuncId) (ys : List V) (bs : List (List V)) (r : V) (bs' : List (List V)) : Prop := SpecB T2 Tryd.prog f ys bs r bs'
theorem bq_of {f : FuncId} {fn : Func} {ys : List V} {bs : List (List V)} {r : V} {bs' : List (List V)} (hf : Tryd.prog.funcs[f]? = some fn) (hc : callable Tryd.prog f = true) (hn : (Nat.ble ys.length fn.ntmps && Nat.blt fn.ntmps 100000) = true) (hb : (Nat.ble bs.length 8 && bs.all fun b => Nat.blt b.length 100000) = true) (hl : bs'.map List.length = bs.map List.length) (h : fnVCB T2 Tryd.prog fn ys bs r bs') : SqB f ys bs r bs' := by
  rw [Bool.and_eq_true] at hn hb
  exact fnB_sound tabOk2 mixed hf hc (Nat.le_of_ble_eq_true hn.1) (blt hn.2) (Nat.le_of_ble_eq_true hb.1) (fun b hb' => blt (List.all_eq_true.1 hb.2 b hb')) hl h
/-- a contract that knows less of the variables -/
theorem sq_sp {f : FuncId} {ys : List V} {r : V} (h : Sp f ys r) : Sq f ys r := ⟨h.1, fun w G cs h1 h2 h3 h4 h5 => h.2 w G cs h1 h2 h3 h4 (LayQ.lp h5)⟩

theorem sq_of_calls {f : FuncId} {ys : List V} {r : V} (hc : callable Tryd.prog f = true)
    (h : ∀ (w : World) (G : Gh) (cs : Array Value), cs.size = ys.length → (∀ b, G.O b ≠ .ext → b < w.heap.size) → (∀ (j : Nat) v y, cs[j]? = some v → ys[j]? = some y → Rb T2 w G j v y) → LayQ w (fun b => G.O b = .fz) →
      Calls Tryd.prog f cs w fun e w' => Below w.heap.size w w' ∧ ∃ v, e = .returned v ∧ Rr T2 w' G v r) : Sq f ys r := by
  refine ⟨hc, fun w G cs h1 h2 h3 h4 h5 => (h w G cs h1 h2 h4 h5).mono ?_⟩
  rintro e w' ⟨hb, v, rfl, hr⟩
  refine ⟨v, G, rfl, hr, fun _ h => h, fun b hb' => Nat.lt_of_lt_of_le (h2 b hb') hb.size, h3, fun b hb' => ?_, fun b hb' _ => hb.block b hb', hb.size, hb.os, hb.tape, hb.output⟩
  cases hO : G.O b with
  | ext => exact absurd hO hb'
  | fz => exact .inl ⟨rfl, rfl⟩
  | bx i => exact absurd hO (h3 b i)
  | ar j => exact .inr (.inr ⟨j, rfl⟩)
/-- plain arguments alone -/
theorem sq_lits {f : FuncId} {us : List Value} {r : V} (hc : callable Tryd.prog f = true)
    (h : ∀ (w : World) (F : Nat → Prop), LayQ w F → Calls Tryd.prog f us.toArray w fun e w' => Below w.heap.size w w' ∧ ∃ v, e = .returned v ∧ ∀ G, Rr T2 w' G v r) : Sq f (us.map .lit) r := by
  refine sq_of_calls hc fun w G cs h1 h2 h4 h5 => ?_
  have e : cs = us.toArray := by
    apply Array.ext
    · rw [h1]; simp
    · intro i hi hi'
      have hi2 : i < us.length := by simpa using hi'
      have := h4 i cs[i] (.lit us[i]) (by simp [hi]) (by simp [hi2])
      have e2 : cs[i] = us[i] := this.2.lit_eq
      simpa using e2
  rw [e]
  refine (h w _ h5).mono ?_
  rintro e w' ⟨hb, v, rfl, hr⟩
  exact ⟨hb, v, rfl, hr G⟩
theorem rr_tup {w : World} {G : Gh} {vs : List Value} {rs : List V} (h : vs.length = rs.length) (hr : ∀ (j : Nat) u y, vs[j]? = some u → rs[j]? = some y → Rb T2 w G j u y) : Rr T2 w G (.tuple vs.toArray) (.tup rs) :=
  ⟨vs.toArray, rfl, by simpa using h, fun j u y hu hy => hr j u y (by simpa using hu) hy⟩
theorem rb_l {w : World} {G : Gh} {j : Nat} {u : Value} (h : u.oneCell' = true) : Rb T2 w G j u (.lit u) := ⟨by simp only [V.pure, V.ok], .lit u h⟩
theorem rb_bot {w : World} {G : Gh} {j : Nat} {u : Value} : Rb T2 w G j u .bot := ⟨by simp only [V.pure, V.ok], .bot u⟩

def bA (l : List UInt8) : ByteArray := ⟨l.toArray⟩
theorem bA_list (s : ByteArray) : bA s.data.toList = s := by unfold bA; simp
theorem list_bA (l : List UInt8) : (bA l).data.toList = l := by unfold bA; simp

theorem cut_spec (s sep : ByteArray) (hs : s.size < 4294967281) :
    Sq 63 [S s, S sep] (.tup [S (bA (Lib.cut s.data.toList sep.data.toList).1), S (bA (Lib.cut s.data.toList sep.data.toList).2.1), .lit (.bool (Lib.cut s.data.toList sep.data.toList).2.2)]) := by
  refine sq_lits (us := [.string s, .string sep]) (by kernel_rfl) fun w F hl => ?_
  obtain ⟨m, t, z, hm⟩ := hl.ml.2
  refine (Any.strings_Cut Tryd.lays145 s sep m w hs ?_).mono ?_
  · show w.cell? ⟨0, 0, none⟩ = _
    unfold World.cell?
    rw [hm]; rfl
  · rintro e w' ⟨rfl, n, rfl⟩
    refine ⟨below_drewN, _, rfl, fun G => rr_tup (vs := [_, _, _]) rfl fun j u y hu hy => ?_⟩
    match j with
    | 0 => cases hu; cases hy; exact rb_l rfl
    | 1 => cases hu; cases hy; exact rb_l rfl
    | 2 => cases hu; cases hy; exact rb_l rfl
    | j + 3 => simp at hu
theorem cutp_spec (s p : ByteArray) : Sq 66 [S s, S p] (.tup [S (bA (Lib.trimPrefix s.data.toList p.data.toList)), .lit (.bool (Lib.hasPrefix s.data.toList p.data.toList))]) := by
  refine sq_lits (us := [.string s, .string p]) (by kernel_rfl) fun w F hl => ?_
  refine (Any.strings_CutPrefix Tryd.lays103 s p w).mono ?_
  rintro e w' ⟨rfl, rfl⟩
  refine ⟨Below.refl _ _, _, rfl, fun G => rr_tup (vs := [_, _]) rfl fun j u y hu hy => ?_⟩
  match j with
  | 0 => cases hu; cases hy; exact rb_l rfl
  | 1 => cases hu; cases hy; exact rb_l rfl
  | j + 2 => simp at hu
/-- the number that Atoi hands back -/
def atoiV (l : List UInt8) : Int := match Lib.atoiAll l with | .ok v => v | .range => Lib.atoiSat l | _ => 0
theorem atoi_spec (s : ByteArray) (hs : s.size ≤ 281474976710656) : Sq 65 [S s] (.tup [I (atoiV s.data.toList), .bot]) := by
  refine sq_lits (us := [.string s]) (by kernel_rfl) fun w F hl => ?_
  have fin : ∀ (w' : World) (n : Int) (u : Value), Below w.heap.size w w' → n = atoiV s.data.toList → Below w.heap.size w w' ∧ ∃ v, Ending.returned (.tuple #[.int .i64 n, u]) = .returned v ∧ ∀ G, Rr T2 w' G v (.tup [I (atoiV s.data.toList), .bot]) := by
    rintro w' n u hb rfl
    refine ⟨hb, _, rfl, fun G => rr_tup (vs := [_, _]) rfl fun j u y hu hy => ?_⟩
    match j with
    | 0 => cases hu; cases hy; exact rb_l rfl
    | 1 => cases hu; cases hy; exact rb_bot
    | j + 2 => simp at hu
  cases h : Lib.atoiAll s.data.toList
  · rename_i v
    refine (Any.strconv_Atoi_ok Tryd.laysC172 s (by omega) v h w).mono ?_
    rintro e w' ⟨rfl, hw⟩
    refine fin w' v _ ?_ (by unfold atoiV; rw [h])
    rcases hw with rfl | ⟨t, rfl⟩
    · exact Below.refl _ _
    · exact Lib.bytesWorld_below _ _ _
  · obtain ⟨te, pe, t, z, hm⟩ := hl.es.2
    refine (Any.strconv_Atoi_syntax Tryd.laysC172 s hs h (.iface te pe) w ?_ (.inr ⟨te, pe, rfl⟩)).mono ?_
    · show w.cell? ⟨1, 0, none⟩ = _
      unfold World.cell?
      rw [hm]; rfl
    · rintro e w' ⟨N, rfl, _, _, hb⟩
      exact fin w' 0 _ hb (by unfold atoiV; rw [h])
  · obtain ⟨te, pe, t, z, hm⟩ := hl.er.2
    refine (Any.strconv_Atoi_range Tryd.laysC172 s hs h (.iface te pe) w ?_ (.inr ⟨te, pe, rfl⟩)).mono ?_
    · show w.cell? ⟨2, 0, none⟩ = _
      unfold World.cell?
      rw [hm]; rfl
    · rintro e w' ⟨N, rfl, _, _, hb⟩
      exact fin w' _ _ hb (by unfold atoiV; rw [h])
end Go.Proofs.Cost58
namespace Go.Proofs.Cost58
open Go Go.Proofs Go.Ab Go.RowKit
set_option maxRecDepth 100000

/-- the text ahead of a separator, and the one behind it -/
def cutA (s e : ByteArray) : ByteArray := bA (Lib.cut s.data.toList e.data.toList).1
def cutZ (s e : ByteArray) : ByteArray := bA (Lib.cut s.data.toList e.data.toList).2.1
theorem word_vc (rest e : ByteArray) (hs : rest.size < 4294967281) : fnVCB T2 Tryd.prog Tryd.f62 [S e, .box 100000 0] [[S rest]] (S (cutA rest e)) [[S (cutZ rest e)]] := by
  repeat' ((conv => whnf); first
    | (refine call_i (cut_spec rest e hs) false ?_ rfl ?_; focus ((repeat' (first | exact trivial | refine And.intro ?_ ?_ | with_reducible rfl | exact (fun h => by cases h) | exact rfl)); done))
    | refine seq_go ?_
    | refine draw_i (by kernel_rfl) ?_
    | refine arith_half (by omega) ?_
    | refine arith_in (by omega) ?_
    | refine arith_u (by omega) ?_
    | refine need_i (p := (T.row _).eq = true) (by kernel_rfl) ?_
    | refine need_i (by omega) ?_
    | refine br_not ?_
    | refine br_dec (fun hd => ?_) (fun hd => ?_)
    | refine br_lt (fun hlt => ?_) (fun hlt => ?_)
    | refine br_le (fun hle => ?_) (fun hle => ?_)
    | refine br_eq (fun heq => ?_) (fun heq => ?_)
    | refine idx_map (by omega) (fun x hx => ?_)
    | refine live_i rfl (fun h => by cases h) ?_
    | refine branch_s (fun hbb => ?_) (fun hbb => ?_)
    | refine ret_i ?_
    | refine retB_i ?_)
  (conv => whnf); (repeat' (first | exact trivial | refine And.intro ?_ ?_ | with_reducible rfl | exact (fun _ h => by cases h) | exact rfl)); done
theorem word_spec (rest e : ByteArray) (hs : rest.size < 4294967281) : SqB 62 [S e, .box 100000 0] [[S rest]] (S (cutA rest e)) [[S (cutZ rest e)]] :=
  bq_of Tryd.func62 (by kernel_rfl) (by kernel_rfl) rfl rfl (word_vc rest e hs)
theorem bA_size (l : List UInt8) : (bA l).size = l.length := by show l.toArray.size = _; exact List.size_toArray
theorem size_list (s : ByteArray) : s.data.toList.length = s.size := Array.length_toList ..
theorem cut_len (s e : List UInt8) : (Lib.cut s e).1.length ≤ s.length ∧ (Lib.cut s e).2.1.length ≤ s.length := by
  unfold Lib.cut
  split
  · exact ⟨by rw [List.length_take]; omega, by rw [List.length_drop]; omega⟩
  · exact ⟨Nat.le_refl _, Nat.zero_le _⟩
theorem cutA_size (s e : ByteArray) : (cutA s e).size ≤ s.size := by
  unfold cutA
  rw [bA_size, ← size_list s]
  exact (cut_len _ _).1
theorem cutZ_size (s e : ByteArray) : (cutZ s e).size ≤ s.size := by
  unfold cutZ
  rw [bA_size, ← size_list s]
  exact (cut_len _ _).2
theorem number_vc (rest e : ByteArray) (hs : rest.size < 4294967281) : fnVCB T2 Tryd.prog Tryd.f64 [S e, .box 100000 0] [[.fn 62 [.box 100001 0]], [S rest]] (I (atoiV (cutA rest e).data.toList)) [[.fn 62 [.box 100001 0]], [S (cutZ rest e)]] := by
  repeat' ((conv => whnf); first
    | (refine call_b (word_spec rest e hs) [100001] rfl ?_ rfl ?_; focus ((repeat' (first | exact trivial | refine And.intro ?_ ?_ | with_reducible rfl | exact (fun h => by cases h) | exact rfl)); done))
    | (refine call_i (atoi_spec (cutA rest e) (by have := cutA_size rest e; omega)) false ?_ rfl ?_; focus ((repeat' (first | exact trivial | refine And.intro ?_ ?_ | with_reducible rfl | exact (fun h => by cases h) | exact rfl)); done))
    | refine seq_go ?_
    | refine draw_i (by kernel_rfl) ?_
    | refine arith_half (by omega) ?_
    | refine arith_in (by omega) ?_
    | refine arith_u (by omega) ?_
    | refine need_i (p := (T.row _).eq = true) (by kernel_rfl) ?_
    | refine need_i (by omega) ?_
    | refine br_not ?_
    | refine br_dec (fun hd => ?_) (fun hd => ?_)
    | refine br_lt (fun hlt => ?_) (fun hlt => ?_)
    | refine br_le (fun hle => ?_) (fun hle => ?_)
    | refine br_eq (fun heq => ?_) (fun heq => ?_)
    | refine idx_map (by omega) (fun x hx => ?_)
    | refine live_i rfl (fun h => by cases h) ?_
    | refine branch_s (fun hbb => ?_) (fun hbb => ?_)
    | refine ret_i ?_
    | refine retB_i ?_)
  (conv => whnf); (repeat' (first | exact trivial | refine And.intro ?_ ?_ | with_reducible rfl | exact (fun _ h => by cases h) | exact rfl)); done
theorem number_spec (rest e : ByteArray) (hs : rest.size < 4294967281) : SqB 64 [S e, .box 100000 0] [[.fn 62 [.box 100001 0]], [S rest]] (I (atoiV (cutA rest e).data.toList)) [[.fn 62 [.box 100001 0]], [S (cutZ rest e)]] :=
  bq_of Tryd.func64 (by kernel_rfl) (by kernel_rfl) rfl rfl (number_vc rest e hs)
end Go.Proofs.Cost58
