/-
  What holds of every inventory.
-/
import Derived.Test.YtkhhdojgbkophaaGreatH38
set_option linter.unusedVariables false
set_option linter.unusedSimpArgs false
namespace Go.Proofs.Led
open Go Go.Proofs Go.Ab
set_option maxRecDepth 100000
set_option maxHeartbeats 4000000
structure Ok (s : Inv56) (n : Nat) : Prop where
  ss : (s.stocks.map sid).Pairwise (· < ·)
  sp : (s.pieces.map Piece.id).Pairwise (· < ·)
  su : (s.used.map id).Pairwise (· < ·)
  ls : s.stocks.length <= n
  lp : s.pieces.length <= n
  lu : s.used.length <= n
  us : ∀ x ∈ s.stocks, sid x ∈ s.used
  up : ∀ p ∈ s.pieces, p.id ∈ s.used
  sz : ∀ x ∈ s.stocks, stockSized x
theorem Ok.gd {s : Inv56} {n : Nat} (h : Ok s n) (hn : n <= 1000000) : Gd s := ⟨Nat.le_trans h.ls hn, Nat.le_trans h.lp hn, Nat.le_trans h.lu hn, h.ss, h.sp, h.su⟩
theorem Ok.mono {s : Inv56} {n m : Nat} (h : Ok s n) (hn : n <= m) : Ok s m := ⟨h.ss, h.sp, h.su, Nat.le_trans h.ls hn, Nat.le_trans h.lp hn, Nat.le_trans h.lu hn, h.us, h.up, h.sz⟩
theorem ok0 : Ok inv0 0 := ⟨.nil, .nil, .nil, Nat.le_refl _, Nat.le_refl _, Nat.le_refl _, by simp [inv0], by simp [inv0], by simp [inv0]⟩
def more (e : Event) : Nat := 1 + e.cuts.length + e.rests.length
theorem ids_len (e : Event) : (idsOf e).length = e.cuts.length + e.rests.length := by unfold idsOf; simp
theorem ok_recv {s : Inv56} {n : Nat} (h : Ok s n) {x : Stock} (hx : stockSized x) (hn : sid x ∉ s.used) : Ok (recvS s x) (n + 1) where
  ss := put_sorted h.ss (fun m hm e => hn (by rw [<- e]; exact h.us m hm))
  sp := h.sp
  su := putN_sorted h.su hn
  ls := by show (putAt _ _ _).length <= _; rw [len_putAt]; have := h.ls; omega
  lp := Nat.le_succ_of_le h.lp
  lu := by show (putAt _ _ _).length <= _; rw [len_putAt]; have := h.lu; omega
  us := fun y hy => by
    rcases mem_putAt.1 hy with rfl | hy
    · exact mem_putAt.2 (.inl rfl)
    · exact mem_putAt.2 (.inr (h.us y hy))
  up := fun p hp => mem_putAt.2 (.inr (h.up p hp))
  sz := fun y hy => by
    rcases mem_putAt.1 hy with rfl | hy
    · exact hx
    · exact h.sz y hy
theorem mem_set {α : Type} {l : List α} {k : Nat} {x y : α} (h : y ∈ l.set k x) : y = x \/ y ∈ l := (List.mem_or_eq_of_mem_set h).symm
theorem mem_of_get {α : Type} {l : List α} {k : Nat} {x : α} (h : l[k]? = some x) : x ∈ l := List.mem_of_getElem? h
theorem ok_setK {s : Inv56} {n : Nat} (h : Ok s n) {k : Nat} {m : Stock} (hm : s.stocks[k]? = some m) (p : ByteArray) : Ok (setK s k (prog m p)) n where
  ss := by show ((s.stocks.set k (prog m p)).map sid).Pairwise _; rw [set_key hm (rfl : sid (prog m p) = sid m)]; exact h.ss
  sp := h.sp
  su := h.su
  ls := by show (s.stocks.set _ _).length <= _; rw [List.length_set]; exact h.ls
  lp := h.lp
  lu := h.lu
  us := fun y hy => by
    rcases mem_set hy with rfl | hy
    · exact h.us m (mem_of_get hm)
    · exact h.us y hy
  up := h.up
  sz := fun y hy => by
    rcases mem_set hy with rfl | hy
    · exact h.sz m (mem_of_get hm)
    · exact h.sz y hy
theorem ok_setP {s : Inv56} {n : Nat} (h : Ok s n) {k : Nat} {m : Piece} (hm : s.pieces[k]? = some m) (st : Int) (o : ByteArray) : Ok (setP s k (marked m st o)) n where
  ss := h.ss
  sp := by show ((s.pieces.set k (marked m st o)).map Piece.id).Pairwise _; rw [set_key hm (rfl : (marked m st o).id = m.id)]; exact h.sp
  su := h.su
  ls := h.ls
  lp := by show (s.pieces.set _ _).length <= _; rw [List.length_set]; exact h.lp
  lu := h.lu
  us := h.us
  up := fun y hy => by
    rcases mem_set hy with rfl | hy
    · exact h.up m (mem_of_get hm)
    · exact h.up y hy
  sz := h.sz
theorem ok_disc {s : Inv56} {n : Nat} (h : Ok s n) (k : Nat) (m : Stock) : Ok (discS s k m) n where
  ss := out_sorted h.ss k
  sp := h.sp
  su := h.su
  ls := Nat.le_trans (out_sub _ _).length_le h.ls
  lp := h.lp
  lu := h.lu
  us := fun y hy => h.us y ((out_sub _ _).subset hy)
  up := h.up
  sz := fun y hy => h.sz y ((out_sub _ _).subset hy)
theorem cut3_facts {s : Inv56} {n : Nat} (h : Ok s n) {e : Event} {k : Nat} {m : Stock} (hf : freshOk s.used (idsOf e)) (hr : restsE m [] e.rests = 0) {D R : List Stock} (hD : restsL m e.rests = D ++ R) :
    ((D.foldl putS (outAt s.stocks k)).map sid).Pairwise (· < ·) /\ (∀ y, y ∈ D.foldl putS (outAt s.stocks k) ↔ y ∈ outAt s.stocks k \/ y ∈ D) /\ (D.foldl putS (outAt s.stocks k)).length = (outAt s.stocks k).length + D.length := by
  have hid := restsL_id hr
  rw [hD, List.map_append] at hid
  obtain ⟨f1, f2⟩ := fresh_iff.1 hf
  unfold idsOf at f1 f2
  rw [List.pairwise_append] at f2
  obtain ⟨_, f3, _⟩ := f2
  rw [<- hid] at f1 f3
  rw [List.pairwise_append] at f3
  refine fold_put (key := sid) (out_sorted h.ss k) (fun x hx y hy e => ?_) f3.1
  exact f1 (sid x) (by simp only [List.mem_append]; exact .inr (.inl (List.mem_map_of_mem hx))) (by rw [<- e]; exact h.us y ((out_sub _ _).subset hy))
theorem cut4_facts {s : Inv56} {n : Nat} (h : Ok s n) {e : Event} {m : Stock} (hf : freshOk s.used (idsOf e)) {D R : List Made} (hD : e.cuts = D ++ R) :
    ((D.foldl (fun p x => putP p (pieceOf e m x)) s.pieces).map Piece.id).Pairwise (· < ·) /\ (∀ y, y ∈ D.foldl (fun p x => putP p (pieceOf e m x)) s.pieces ↔ y ∈ s.pieces \/ y ∈ D.map (pieceOf e m)) /\ (D.foldl (fun p x => putP p (pieceOf e m x)) s.pieces).length = s.pieces.length + D.length := by
  obtain ⟨f1, f2⟩ := fresh_iff.1 hf
  unfold idsOf at f1 f2
  rw [List.pairwise_append] at f2
  obtain ⟨f3, _, _⟩ := f2
  rw [hD, List.map_append] at f1 f3
  rw [List.pairwise_append] at f3
  have e1 : D.foldl (fun p x => putP p (pieceOf e m x)) s.pieces = (D.map (pieceOf e m)).foldl (putK Piece.id) s.pieces := by rw [List.foldl_map]; rfl
  have e2 : (D.map (pieceOf e m)).map Piece.id = D.map Made.id := by rw [List.map_map]; rfl
  rw [e1]
  have q := fold_put (key := Piece.id) (xs := D.map (pieceOf e m)) h.sp (fun x hx y hy e' => by
    obtain ⟨c, hc, rfl⟩ := List.mem_map.1 hx
    exact f1 c.id (by simp only [List.mem_append]; exact .inl (.inl (List.mem_map_of_mem hc))) (by have := h.up y hy; rw [e'] at this; exact this)) (by rw [e2]; exact f3.1)
  rw [List.length_map] at q
  exact q
theorem ok_cut4 {s : Inv56} {n : Nat} (h : Ok s n) {e : Event} {k : Nat} {m : Stock} (hm : s.stocks[k]? = some m) (hf : freshOk s.used (idsOf e)) (hr : restsE m [] e.rests = 0) {D R : List Stock} (hD : restsL m e.rests = D ++ R) {C Q : List Made} (hC : e.cuts = C ++ Q) :
    Ok (cut4 s e k m D C) (n + e.cuts.length + e.rests.length) := by
  obtain ⟨a1, a2, a3⟩ := cut3_facts (k := k) h hf hr hD
  obtain ⟨b1, b2, b3⟩ := cut4_facts (m := m) h hf hC
  obtain ⟨c1, c2⟩ := freshL_good _ _ h.su hf
  rw [ids_len] at c2
  have hl3 := congrArg List.length (restsL_id hr)
  rw [hD] at hl3
  simp only [List.length_map, List.length_append] at hl3
  have hl4 := congrArg List.length hC
  rw [List.length_append] at hl4
  have l1 := (out_sub s.stocks k).length_le
  have l2 := h.ls
  have l3 := h.lp
  have l4 := h.lu
  refine ⟨a1, b1, c1, ?_, ?_, ?_, fun y hy => ?_, fun y hy => ?_, fun y hy => ?_⟩
  · show (D.foldl putS (outAt s.stocks k)).length <= _
    rw [a3]; omega
  · show (C.foldl (fun p x => putP p (pieceOf e m x)) s.pieces).length <= _
    rw [b3]; omega
  · show (freshL s.used (idsOf e)).length <= _
    rw [c2]; omega
  · refine freshL_mem.2 ?_
    rcases (a2 y).1 hy with hy | hy
    · exact .inl (h.us y ((out_sub _ _).subset hy))
    · refine .inr ?_
      have : sid y ∈ (restsL m e.rests).map sid := by rw [hD]; exact List.mem_map_of_mem (by simp [hy])
      rw [restsL_id hr] at this
      unfold idsOf
      simp only [List.mem_append]
      exact .inr this
  · refine freshL_mem.2 ?_
    rcases (b2 y).1 hy with hy | hy
    · exact .inl (h.up y hy)
    · refine .inr ?_
      obtain ⟨c, hc, rfl⟩ := List.mem_map.1 hy
      unfold idsOf
      simp only [List.mem_append]
      exact .inl (List.mem_map_of_mem (by rw [hC]; simp [hc]))
  · rcases (a2 y).1 hy with hy | hy
    · exact h.sz y ((out_sub _ _).subset hy)
    · have : y ∈ restsL m e.rests := by rw [hD]; simp [hy]
      rw [restsL_eq hr] at this
      obtain ⟨r, _, rfl⟩ := List.mem_map.1 this
      exact restS_sized (h.sz m (mem_of_get hm))
theorem ok_scrap {s : Inv56} {n : Nat} (h : Ok s n) (v : Iv) : Ok { s with scrap := v } n := ⟨h.ss, h.sp, h.su, h.ls, h.lp, h.lu, h.us, h.up, h.sz⟩
theorem withS_cases {s : Inv56} {n : Int} {f : Stock -> Inv56 × Int} (hs : (s.stocks.map sid).Pairwise (· < ·)) :
    ((¬ ∃ m ∈ s.stocks, sid m = n) /\ withS s n f = (inv0, 8)) \/ ∃ m, (∃ m ∈ s.stocks, sid m = n) /\ s.stocks[bs sid s.stocks n]? = some m /\ sid m = n /\ withS s n f = f m := by
  unfold withS
  by_cases h : ∃ m ∈ s.stocks, sid m = n
  · obtain ⟨m, h1, h2⟩ := bs_found hs h
    refine .inr ⟨m, h, h1, h2, ?_⟩
    rw [if_pos h, h1]
  · exact .inl ⟨h, if_neg h⟩
def MethSp (f : FuncId) (s : Inv56) (e : Event) (q : Inv56 × Int) : Prop := (q.2 = 0 /\ SpB f [.box 100000 0, eventV e] [stC s] (I 0) [stC q.1]) \/ (q.2 ≠ 0 /\ q.1 = inv0 /\ SpB f [.box 100000 0, eventV e] [stC s] (I q.2) [bots])
theorem methRel {s : Inv56} {e : Event} {n : Nat} (h : Ok s n) (hn : n <= 1000000) : MethSp 58 s e (relR s e) /\ ((relR s e).2 = 0 -> Ok (relR s e).1 n) := by
  unfold relR
  rcases withS_cases (n := e.id) (f := fun m => open Classical in if m.program = emptyB then (setK s (bs sid s.stocks e.id) (prog m e.text), 0) else (inv0, 27)) h.ss with ⟨h1, h2⟩ | ⟨m, h1, h2, h3, h4⟩
  · rw [h2]
    exact ⟨.inr ⟨by decide, rfl, releaseN_spec s e (h.gd hn) h1⟩, fun h => by cases h⟩
  · rw [h4]
    by_cases c : m.program = emptyB
    · rw [if_pos c]
      exact ⟨.inl ⟨rfl, releaseY_spec s e m (h.gd hn) h1 h2 c⟩, fun _ => ok_setK h h2 _⟩
    · rw [if_neg c]
      exact ⟨.inr ⟨by decide, rfl, releaseB_spec s e m (h.gd hn) h1 h2 c⟩, fun h => by cases h⟩
theorem methCan {s : Inv56} {e : Event} {n : Nat} (h : Ok s n) (hn : n <= 1000000) : MethSp 59 s e (cancR s e) /\ ((cancR s e).2 = 0 -> Ok (cancR s e).1 n) := by
  unfold cancR
  rcases withS_cases (n := e.id) (f := fun m => open Classical in if m.program ≠ emptyB then (setK s (bs sid s.stocks e.id) (prog m emptyB), 0) else (inv0, 10)) h.ss with ⟨h1, h2⟩ | ⟨m, h1, h2, h3, h4⟩
  · rw [h2]
    exact ⟨.inr ⟨by decide, rfl, cancelN_spec s e (h.gd hn) h1⟩, fun h => by cases h⟩
  · rw [h4]
    by_cases c : m.program ≠ emptyB
    · rw [if_pos c]
      exact ⟨.inl ⟨rfl, cancelY_spec s e m (h.gd hn) h1 h2 c⟩, fun _ => ok_setK h h2 _⟩
    · rw [if_neg c]
      exact ⟨.inr ⟨by decide, rfl, cancelB_spec s e m (h.gd hn) h1 h2 c⟩, fun h => by cases h⟩
theorem methDis {s : Inv56} {e : Event} {n : Nat} (h : Ok s n) (hn : n <= 1000000) : MethSp 63 s e (discR s e) /\ ((discR s e).2 = 0 -> Ok (discR s e).1 n) := by
  unfold discR
  rcases withS_cases (n := e.id) (f := fun m => open Classical in if m.program = emptyB then (discS s (bs sid s.stocks e.id) m, 0) else (inv0, 27)) h.ss with ⟨h1, h2⟩ | ⟨m, h1, h2, h3, h4⟩
  · rw [h2]
    exact ⟨.inr ⟨by decide, rfl, discardN_spec s e (h.gd hn) h1⟩, fun h => by cases h⟩
  · rw [h4]
    by_cases c : m.program = emptyB
    · rw [if_pos c]
      exact ⟨.inl ⟨rfl, discardY_spec s e m (h.gd hn) h1 h2 c (h.sz m (mem_of_get h2))⟩, fun _ => ok_disc h _ m⟩
    · rw [if_neg c]
      exact ⟨.inr ⟨by decide, rfl, discardB_spec s e m (h.gd hn) h1 h2 c⟩, fun h => by cases h⟩
theorem markR_cases {s : Inv56} {k st : Int} {o : ByteArray} {n : Nat} (h : Ok s n) (hn : n <= 1000000) : (((markR s k st o).2 = 0 /\ SpB 142 [.box 100000 0, I k, I st, S o] [stC s] (I 0) [stC (markR s k st o).1]) \/
    ((markR s k st o).2 ≠ 0 /\ (markR s k st o).1 = inv0 /\ SpB 142 [.box 100000 0, I k, I st, S o] [stC s] (I (markR s k st o).2) [bots])) /\ ((markR s k st o).2 = 0 -> Ok (markR s k st o).1 n) := by
  by_cases h1 : ∃ m ∈ s.pieces, m.id = k
  · obtain ⟨m, h2, h3⟩ := bs_found h.sp h1
    have e : markR s k st o = open Classical in if m.status = 1 then (setP s (bs Piece.id s.pieces k) (marked m st o), 0) else (inv0, 10) := by
      unfold markR
      rw [if_pos h1, h2]
    rw [e]
    by_cases c : m.status = 1
    · rw [if_pos c]
      exact ⟨.inl ⟨rfl, markY_spec s k st o m (h.gd hn) h1 h2 c⟩, fun _ => ok_setP h h2 st o⟩
    · rw [if_neg c]
      exact ⟨.inr ⟨(by decide : (10 : Int) ≠ 0), rfl, markB_spec s k st o m (h.gd hn) h1 h2 c⟩, fun h => by cases h⟩
  · unfold markR
    rw [if_neg h1]
    exact ⟨.inr ⟨(by decide : (8 : Int) ≠ 0), rfl, markN_spec s k st o (h.gd hn) h1⟩, fun h => by cases h⟩
theorem methRej {s : Inv56} {e : Event} {n : Nat} (h : Ok s n) (hn : n <= 1000000) : MethSp 61 s e (markR s e.id 2 emptyB) /\ ((markR s e.id 2 emptyB).2 = 0 -> Ok (markR s e.id 2 emptyB).1 n) := by
  obtain ⟨h1, h2⟩ := markR_cases (k := e.id) (st := 2) (o := emptyB) h hn
  refine ⟨?_, h2⟩
  rcases h1 with ⟨q1, q2⟩ | ⟨q1, q2, q3⟩
  · exact .inl ⟨q1, reject_spec s e (.inr ⟨_, rfl⟩) q2⟩
  · exact .inr ⟨q1, q2, reject_spec s e (.inl rfl) q3⟩
theorem methShip {s : Inv56} {e : Event} {n : Nat} (h : Ok s n) (hn : n <= 1000000) : MethSp 62 s e (markR s e.id 3 e.text) /\ ((markR s e.id 3 e.text).2 = 0 -> Ok (markR s e.id 3 e.text).1 n) := by
  obtain ⟨h1, h2⟩ := markR_cases (k := e.id) (st := 3) (o := e.text) h hn
  refine ⟨?_, h2⟩
  rcases h1 with ⟨q1, q2⟩ | ⟨q1, q2, q3⟩
  · exact .inl ⟨q1, ship_spec s e (.inr ⟨_, rfl⟩) q2⟩
  · exact .inr ⟨q1, q2, ship_spec s e (.inl rfl) q3⟩
theorem recvR_cases {s : Inv56} {x : Stock} {n : Nat} (h : Ok s n) (hn : n + 1 <= 1000000) (hx : stockSized x) : (((recvR s x).2 = 0 /\ SpB 134 [.box 100000 0, stockV x] [stC s] (I 0) [stC (recvR s x).1]) \/
    ((recvR s x).2 ≠ 0 /\ (recvR s x).1 = inv0 /\ SpB 134 [.box 100000 0, stockV x] [stC s] (I (recvR s x).2) [bots])) /\ ((recvR s x).2 = 0 -> Ok (recvR s x).1 (n + 1)) := by
  unfold recvR
  have hl : s.used.length + 1 <= 1000000 := by have := h.lu; omega
  by_cases c : sid x ∈ s.used
  · rw [if_pos c]
    exact ⟨.inr ⟨(by decide : (7 : Int) ≠ 0), rfl, receiveN_spec s x (h.gd (by omega)) hl c⟩, fun h => by cases h⟩
  · rw [if_neg c]
    exact ⟨.inl ⟨rfl, receiveY_spec s x (h.gd (by omega)) hx hl c⟩, fun _ => ok_recv h hx c⟩
theorem methSh {s : Inv56} {e : Event} {n : Nat} (h : Ok s n) (hn : n + 1 <= 1000000) (he : sheetSized e.sheet) : MethSp 56 s e (recvR s ⟨false, e.sheet, bar0, emptyB⟩) /\ ((recvR s ⟨false, e.sheet, bar0, emptyB⟩).2 = 0 -> Ok (recvR s ⟨false, e.sheet, bar0, emptyB⟩).1 (n + 1)) := by
  obtain ⟨h1, h2⟩ := recvR_cases (x := ⟨false, e.sheet, bar0, emptyB⟩) h hn ⟨he, by simp [bar0]⟩
  refine ⟨?_, h2⟩
  rcases h1 with ⟨q1, q2⟩ | ⟨q1, q2, q3⟩
  · exact .inl ⟨q1, recvSh_spec s e (.inr ⟨_, rfl⟩) q2⟩
  · exact .inr ⟨q1, q2, recvSh_spec s e (.inl rfl) q3⟩
theorem methBr {s : Inv56} {e : Event} {n : Nat} (h : Ok s n) (hn : n + 1 <= 1000000) (he : EvSized e) : MethSp 57 s e (recvR s ⟨true, sheet0, e.bar, emptyB⟩) /\ ((recvR s ⟨true, sheet0, e.bar, emptyB⟩).2 = 0 -> Ok (recvR s ⟨true, sheet0, e.bar, emptyB⟩).1 (n + 1)) := by
  obtain ⟨h1, h2⟩ := recvR_cases (x := ⟨true, sheet0, e.bar, emptyB⟩) h hn ⟨sh0_sized, he.br⟩
  refine ⟨?_, h2⟩
  rcases h1 with ⟨q1, q2⟩ | ⟨q1, q2, q3⟩
  · exact .inl ⟨q1, recvB_spec s e (.inr ⟨_, rfl⟩) q2⟩
  · exact .inr ⟨q1, q2, recvB_spec s e (.inl rfl) q3⟩
theorem methCut {s : Inv56} {e : Event} {n : Nat} (h : Ok s n) (hn : n + more e <= 1000000) (he : EvSized e) : MethSp 60 s e (cutR s e) /\ ((cutR s e).2 = 0 -> Ok (cutR s e).1 (n + more e)) := by
  unfold more at hn ⊢
  have hg := h.gd (by omega)
  have hl : s.used.length + (idsOf e).length <= 1000000 := by rw [ids_len]; have := h.lu; omega
  unfold cutR
  by_cases c1 : freshOk s.used (idsOf e)
  · rw [if_neg (Classical.not_not.2 c1)]
    rcases withS_cases (n := e.id) (f := fun m => open Classical in if m.program = emptyB then (inv0, 10) else
      if restsE m [] e.rests ≠ 0 then (inv0, restsE m [] e.rests) else if leftK m e ≠ e.scrap then (inv0, 29) else (cut5 s e (bs sid s.stocks e.id) m, 0)) h.ss with ⟨h1, h2⟩ | ⟨m, h1, h2, h3, h4⟩
    · rw [h2]
      exact ⟨.inr ⟨(by decide : (8 : Int) ≠ 0), rfl, cut_spec s e hg he hl (.inr ⟨c1, .inl ⟨h1, rfl, rfl⟩⟩) (.inl rfl)⟩, fun h => by cases h⟩
    · rw [h4]
      have hms := h.sz m (mem_of_get h2)
      by_cases c2 : m.program = emptyB
      · rw [if_pos c2]
        exact ⟨.inr ⟨(by decide : (10 : Int) ≠ 0), rfl, cut_spec s e hg he hl (.inr ⟨c1, .inr ⟨m, h1, h2, .inl ⟨c2, rfl, rfl⟩⟩⟩) (.inl rfl)⟩, fun h => by cases h⟩
      · rw [if_neg c2]
        by_cases c3 : restsE m [] e.rests ≠ 0
        · rw [if_pos c3]
          exact ⟨.inr ⟨c3, rfl, cut_spec s e hg he hl (.inr ⟨c1, .inr ⟨m, h1, h2, .inr ⟨c2, hms, .inl ⟨c3, rfl, rfl⟩⟩⟩⟩) (.inl rfl)⟩, fun h => absurd h c3⟩
        · rw [if_neg c3]
          have c3' := Classical.not_not.1 c3
          have hz : ∀ x ∈ restsL m e.rests, stockSized x := fun x hx => by
            rw [restsL_eq c3'] at hx
            obtain ⟨r, _, rfl⟩ := List.mem_map.1 hx
            exact restS_sized hms
          have hlz : (restsL m e.rests).length <= 1000000 := by rw [restsL_eq c3', List.length_map]; exact he.rs
          by_cases c4 : leftK m e ≠ e.scrap
          · rw [if_pos c4]
            exact ⟨.inr ⟨(by decide : (29 : Int) ≠ 0), rfl, cut_spec s e hg he hl (.inr ⟨c1, .inr ⟨m, h1, h2, .inr ⟨c2, hms, .inr ⟨c3', hz, hlz, .inl ⟨c4, rfl, rfl⟩⟩⟩⟩⟩) (.inl rfl)⟩, fun h => by cases h⟩
          · rw [if_neg c4]
            refine ⟨.inl ⟨rfl, cut_spec s e hg he hl (.inr ⟨c1, .inr ⟨m, h1, h2, .inr ⟨c2, hms, .inr ⟨c3', hz, hlz, .inr ⟨Classical.not_not.1 c4, fun D R hD => ?_, fun D R hD => ?_, rfl, rfl⟩⟩⟩⟩⟩) (.inr ⟨_, rfl⟩)⟩, fun _ => ?_⟩
            · have q := (ok_cut4 (C := []) (Q := e.cuts) h h2 c1 c3' hD rfl).gd (by omega)
              exact ⟨q.ls, q.lp, q.lu, q.ss, q.sp, q.su⟩
            · exact (ok_cut4 (R := []) h h2 c1 c3' (List.append_nil _).symm hD).gd (by omega)
            · exact ok_scrap ((ok_cut4 (R := []) (Q := []) h h2 c1 c3' (List.append_nil _).symm (List.append_nil _).symm).mono (by omega)) _
  · rw [if_pos c1]
    exact ⟨.inr ⟨(by decide : (7 : Int) ≠ 0), rfl, cut_spec s e hg he hl (.inl ⟨c1, rfl, rfl⟩) (.inl rfl)⟩, fun h => by cases h⟩
theorem apply_of {s : Inv56} {e : Event} {f : FuncId} {q : Inv56 × Int} (hs : Gd s) (he : EvSized e) (hf : formedC e) (hg : assocV (.int .i64 e.kind) methsV = some (.fn f [])) (hm : MethSp f s e q) :
    Sp 14 [invV s, eventV e] (.tup [invV q.1, I q.2]) := by
  refine zsp Tryz.func14 ?_
  rcases hm with ⟨h1, h2⟩ | ⟨h1, h2, h3⟩
  · rw [h1]
    exact applyY_vc s q.1 e hs he hf hg h2
  · rw [h2]
    exact applyE_vc s e hs he hf hg h1 h3
theorem apply_spec {s : Inv56} {e : Event} {n : Nat} (h : Ok s n) (hn : n + more e <= 1000000) (he : EvSized e) : Sp 14 [invV s, eventV e] (.tup [invV (appR s e).1, I (appR s e).2]) /\ ((appR s e).2 = 0 -> Ok (appR s e).1 (n + more e)) := by
  unfold appR
  have hm : 1 <= more e := by unfold more; omega
  by_cases hf : formedC e
  · rw [if_pos hf]
    have hk : e.kind = 1 \/ e.kind = 2 \/ e.kind = 3 \/ e.kind = 4 \/ e.kind = 5 \/ e.kind = 6 \/ e.kind = 7 \/ e.kind = 8 := by have := hf.2.2.2.2.2.2.2.2; omega
    unfold stepR
    have hs := h.gd (by omega)
    rcases hk with hk | hk | hk | hk | hk | hk | hk | hk
    · simp only [hk, reduceIte, reduceCtorEq, Int.reduceEq]
      obtain ⟨q1, q2⟩ := methSh (e := e) h (by omega) (valid_sized (hf.2.2.2.1 hk).2)
      exact ⟨apply_of hs he hf (by rw [hk]; simp [methsV, assocV]) q1, fun h => (q2 h).mono (by omega)⟩
    · simp only [hk, reduceIte, reduceCtorEq, Int.reduceEq]
      obtain ⟨q1, q2⟩ := methBr (e := e) h (by omega) he
      exact ⟨apply_of hs he hf (by rw [hk]; simp [methsV, assocV]) q1, fun h => (q2 h).mono (by omega)⟩
    · simp only [hk, reduceIte, reduceCtorEq, Int.reduceEq]
      obtain ⟨q1, q2⟩ := methRel (e := e) h (by omega)
      exact ⟨apply_of hs he hf (by rw [hk]; simp [methsV, assocV]) q1, fun h => (q2 h).mono (by omega)⟩
    · simp only [hk, reduceIte, reduceCtorEq, Int.reduceEq]
      obtain ⟨q1, q2⟩ := methCan (e := e) h (by omega)
      exact ⟨apply_of hs he hf (by rw [hk]; simp [methsV, assocV]) q1, fun h => (q2 h).mono (by omega)⟩
    · simp only [hk, reduceIte, reduceCtorEq, Int.reduceEq]
      obtain ⟨q1, q2⟩ := methCut (e := e) h hn he
      exact ⟨apply_of hs he hf (by rw [hk]; simp [methsV, assocV]) q1, q2⟩
    · simp only [hk, reduceIte, reduceCtorEq, Int.reduceEq]
      obtain ⟨q1, q2⟩ := methRej (e := e) h (by omega)
      exact ⟨apply_of hs he hf (by rw [hk]; simp [methsV, assocV]) q1, fun h => (q2 h).mono (by omega)⟩
    · simp only [hk, reduceIte, reduceCtorEq, Int.reduceEq]
      obtain ⟨q1, q2⟩ := methShip (e := e) h (by omega)
      exact ⟨apply_of hs he hf (by rw [hk]; simp [methsV, assocV]) q1, fun h => (q2 h).mono (by omega)⟩
    · simp only [hk, reduceIte, reduceCtorEq, Int.reduceEq]
      obtain ⟨q1, q2⟩ := methDis (e := e) h (by omega)
      exact ⟨apply_of hs he hf (by rw [hk]; simp [methsV, assocV]) q1, fun h => (q2 h).mono (by omega)⟩
  · rw [if_neg hf]
    exact ⟨zsp Tryz.func14 (applyN_vc s e he hf), fun h => by cases h⟩
inductive Step (s : Inv56) (e : Event) : Inv56 -> Prop
  | recv (x : Stock) (hx : (e.kind = 1 /\ x = ⟨false, e.sheet, bar0, emptyB⟩ /\ validSheetC e.sheet) \/ (e.kind = 2 /\ x = ⟨true, sheet0, e.bar, emptyB⟩ /\ validBarC e.bar)) (hn : sid x ∉ s.used) : Step s e (recvS s x)
  | setK (k : Nat) (m : Stock) (p : ByteArray) (hk : e.kind = 3 \/ e.kind = 4) (hm : s.stocks[k]? = some m) (hid : sid m = e.id) : Step s e (setK s k (prog m p))
  | disc (k : Nat) (m : Stock) (hk : e.kind = 8) (hm : s.stocks[k]? = some m) (hid : sid m = e.id) : Step s e (discS s k m)
  | setP (k : Nat) (m : Piece) (st : Int) (o : ByteArray) (hk : (e.kind = 6 /\ st = 2 /\ o = emptyB) \/ (e.kind = 7 /\ st = 3 /\ o = e.text)) (hm : s.pieces[k]? = some m) (hs : m.status = 1) (hid : m.id = e.id) : Step s e (setP s k (marked m st o))
  | cut (k : Nat) (m : Stock) (hk : e.kind = 5) (hf : formedCutC e) (hfr : freshOk s.used (idsOf e)) (hm : s.stocks[k]? = some m) (hid : sid m = e.id) (hp : m.program ≠ emptyB) (hr : restsE m [] e.rests = 0) (hl : leftK m e = e.scrap) : Step s e (cut5 s e k m)
theorem mark_cases {s : Inv56} {k st : Int} {o : ByteArray} {n : Nat} (h : Ok s n) (h0 : (markR s k st o).2 = 0) : ∃ m, s.pieces[bs Piece.id s.pieces k]? = some m /\ m.status = 1 /\ m.id = k /\ (markR s k st o).1 = setP s (bs Piece.id s.pieces k) (marked m st o) := by
  unfold markR at h0 ⊢
  by_cases h1 : ∃ m ∈ s.pieces, m.id = k
  · obtain ⟨m, h2, h3⟩ := bs_found h.sp h1
    rw [if_pos h1, h2] at h0 ⊢
    by_cases c : m.status = 1
    · exact ⟨m, rfl, c, h3, by show (ite _ _ _ : Inv56 × Int).1 = _; rw [if_pos c]⟩
    · have h0 : (ite (m.status = 1) (setP s (bs Piece.id s.pieces k) (marked m st o), (0 : Int)) (inv0, 10)).2 = 0 := h0
      rw [if_neg c] at h0
      cases h0
  · rw [if_neg h1] at h0
    cases h0
theorem step_of {s : Inv56} {e : Event} {n : Nat} (h : Ok s n) (h0 : (appR s e).2 = 0) : formedC e /\ Step s e (appR s e).1 := by
  unfold appR at h0 ⊢
  by_cases hf : formedC e
  rotate_left
  · rw [if_neg hf] at h0; cases h0
  refine ⟨hf, ?_⟩
  rw [if_pos hf] at h0 ⊢
  unfold stepR at h0 ⊢
  have hk : e.kind = 1 \/ e.kind = 2 \/ e.kind = 3 \/ e.kind = 4 \/ e.kind = 5 \/ e.kind = 6 \/ e.kind = 7 \/ e.kind = 8 := by have := hf.2.2.2.2.2.2.2.2; omega
  rcases hk with hk | hk | hk | hk | hk | hk | hk | hk
  all_goals simp only [hk, reduceIte, reduceCtorEq, Int.reduceEq] at h0 ⊢
  · unfold recvR at h0 ⊢
    split at h0
    · cases h0
    · rename_i c
      rw [if_neg c]
      exact .recv _ (.inl ⟨hk, rfl, (hf.2.2.2.1 hk).2⟩) c
  · unfold recvR at h0 ⊢
    split at h0
    · cases h0
    · rename_i c
      rw [if_neg c]
      exact .recv _ (.inr ⟨hk, rfl, (hf.2.2.2.2.1 hk).2⟩) c
  · unfold relR at h0 ⊢
    rcases withS_cases (n := e.id) (f := fun m => open Classical in if m.program = emptyB then (Led.setK s (bs sid s.stocks e.id) (prog m e.text), 0) else (inv0, 27)) h.ss with ⟨h1, h2⟩ | ⟨m, h1, h2, h3, h4⟩
    · rw [h2] at h0; cases h0
    · rw [h4] at h0 ⊢
      by_cases c : m.program = emptyB
      · rw [if_pos c]; exact .setK _ m _ (.inl hk) h2 h3
      · rw [if_neg c] at h0; cases h0
  · unfold cancR at h0 ⊢
    rcases withS_cases (n := e.id) (f := fun m => open Classical in if m.program ≠ emptyB then (Led.setK s (bs sid s.stocks e.id) (prog m emptyB), 0) else (inv0, 10)) h.ss with ⟨h1, h2⟩ | ⟨m, h1, h2, h3, h4⟩
    · rw [h2] at h0; cases h0
    · rw [h4] at h0 ⊢
      by_cases c : m.program ≠ emptyB
      · rw [if_pos c]; exact .setK _ m _ (.inr hk) h2 h3
      · rw [if_neg c] at h0; cases h0
  · unfold cutR at h0 ⊢
    by_cases c1 : freshOk s.used (idsOf e)
    rotate_left
    · rw [if_pos c1] at h0; cases h0
    rw [if_neg (Classical.not_not.2 c1)] at h0 ⊢
    rcases withS_cases (n := e.id) (f := fun m => open Classical in if m.program = emptyB then (inv0, 10) else
      if restsE m [] e.rests ≠ 0 then (inv0, restsE m [] e.rests) else if leftK m e ≠ e.scrap then (inv0, 29) else (cut5 s e (bs sid s.stocks e.id) m, 0)) h.ss with ⟨h1, h2⟩ | ⟨m, h1, h2, h3, h4⟩
    · rw [h2] at h0; cases h0
    · rw [h4] at h0 ⊢
      by_cases c2 : m.program = emptyB
      · rw [if_pos c2] at h0; cases h0
      · rw [if_neg c2] at h0 ⊢
        by_cases c3 : restsE m [] e.rests ≠ 0
        · rw [if_pos c3] at h0; exact absurd h0 c3
        · rw [if_neg c3] at h0 ⊢
          by_cases c4 : leftK m e ≠ e.scrap
          · rw [if_pos c4] at h0; cases h0
          · rw [if_neg c4]
            exact .cut _ m hk (hf.2.2.2.2.2.2.2.1 hk) c1 h2 h3 c2 (Classical.not_not.1 c3) (Classical.not_not.1 c4)
  · obtain ⟨m, h1, h2, h3, h4⟩ := mark_cases h h0
    rw [h4]
    exact .setP _ m _ _ (.inl ⟨hk, rfl, rfl⟩) h1 h2 h3
  · obtain ⟨m, h1, h2, h3, h4⟩ := mark_cases h h0
    rw [h4]
    exact .setP _ m _ _ (.inr ⟨hk, rfl, rfl⟩) h1 h2 h3
  · unfold discR at h0 ⊢
    rcases withS_cases (n := e.id) (f := fun m => open Classical in if m.program = emptyB then (discS s (bs sid s.stocks e.id) m, 0) else (inv0, 27)) h.ss with ⟨h1, h2⟩ | ⟨m, h1, h2, h3, h4⟩
    · rw [h2] at h0; cases h0
    · rw [h4] at h0 ⊢
      by_cases c : m.program = emptyB
      · rw [if_pos c]; exact .disc _ m hk h2 h3
      · rw [if_neg c] at h0; cases h0
theorem app_inv0 {s : Inv56} {e : Event} {n : Nat} (h : Ok s n) (h0 : (appR s e).2 ≠ 0) : (appR s e).1 = inv0 := by
  unfold appR at h0 ⊢
  by_cases hf : formedC e
  rotate_left
  · rw [if_neg hf]
  rw [if_pos hf] at h0 ⊢
  unfold stepR at h0 ⊢
  have hk : e.kind = 1 \/ e.kind = 2 \/ e.kind = 3 \/ e.kind = 4 \/ e.kind = 5 \/ e.kind = 6 \/ e.kind = 7 \/ e.kind = 8 := by have := hf.2.2.2.2.2.2.2.2; omega
  rcases hk with hk | hk | hk | hk | hk | hk | hk | hk
  all_goals simp only [hk, reduceIte, reduceCtorEq, Int.reduceEq] at h0 ⊢
  all_goals simp only [recvR, relR, cancR, cutR, markR, discR, withS] at h0 ⊢
  all_goals repeat' split at h0
  all_goals (repeat' split)
  all_goals first | rfl | contradiction | skip
theorem w_mod (n : Int) : ∃ k : Int, W n = n + k * 18446744073709551616 := by
  simp [IntKind.wrap, IntKind.signed, IntKind.bits]
  split
  all_goals first | exact ⟨-(n / 18446744073709551616), by omega⟩ | exact ⟨-(n / 18446744073709551616) - 1, by omega⟩
theorem w_cong {a b : Int} (k : Int) (h : a = b + k * 18446744073709551616) : W a = W b := by
  obtain ⟨p, hp⟩ := w_mod a
  obtain ⟨q, hq⟩ := w_mod b
  have h1 := w_range a
  have h2 := w_range b
  omega
theorem w_add (a b : Int) : W (W a + b) = W (a + b) := by
  obtain ⟨p, hp⟩ := w_mod a
  exact w_cong p (by omega)
theorem w_idem (a : Int) : W (W a) = W a := w_in (w_range a)
def cls (b : Bool) (r : Iv) : Int := if b then r.2 else r.1
theorem cls_plus (b c : Bool) (r : Iv) (n : Int) : cls b (plus c r n) = if c = b then W (cls b r + n) else cls b r := by
  unfold cls plus
  cases b <;> cases c <;> simp
noncomputable def totS (b : Bool) (l : List Stock) : Int := (l.map fun x => if x.isBar = b then sizeK x else 0).sum
def totP (b : Bool) (l : List Piece) : Int := (l.map fun x => if x.isBar = b then x.size else 0).sum
theorem upS_tot (b : Bool) : ∀ (l : List Stock) (r : Iv), W (cls b r) = cls b r -> cls b (upS r l) = W (cls b r + totS b l)
  | [], r, h => by show cls b r = W (cls b r + 0); rw [Int.add_zero, h]
  | x :: l, r, h => by
    have e : upS r (x :: l) = upS (plus x.isBar r (sizeK x)) l := rfl
    have e2 : totS b (x :: l) = (if x.isBar = b then sizeK x else 0) + totS b l := by unfold totS; simp
    rw [e, upS_tot b l _ (by rw [cls_plus]; split; exact w_idem _; exact h), cls_plus, e2]
    split
    · rw [w_add]; congr 1; omega
    · congr 1; omega
theorem upP_tot (b : Bool) : ∀ (l : List Piece) (r : Iv), W (cls b r) = cls b r -> cls b (upP r l) = W (cls b r + totP b l)
  | [], r, h => by show cls b r = W (cls b r + 0); rw [Int.add_zero, h]
  | x :: l, r, h => by
    have e : upP r (x :: l) = upP (plus x.isBar r x.size) l := rfl
    have e2 : totP b (x :: l) = (if x.isBar = b then x.size else 0) + totP b l := by unfold totP; simp
    rw [e, upP_tot b l _ (by rw [cls_plus]; split; exact w_idem _; exact h), cls_plus, e2]
    split
    · rw [w_add]; congr 1; omega
    · congr 1; omega
theorem iv_cls {a b : Iv} : a = b ↔ ∀ c, cls c a = cls c b := by
  constructor
  · rintro rfl _; rfl
  · intro h
    have h1 := h true
    have h2 := h false
    simp [cls] at h1 h2
    exact Prod.ext h2 h1
def inR (r : Iv) : Prop := ∀ b, W (cls b r) = cls b r
theorem inR_plus {r : Iv} {c : Bool} {n : Int} (h : inR r) : inR (plus c r n) := fun b => by rw [cls_plus]; split; exact w_idem _; exact h b
theorem balanced_iff {s : Inv56} (h : inR s.scrap) : balancedC s ↔ ∀ b, W (cls b s.scrap + totS b s.stocks + totP b s.pieces) = cls b s.received := by
  unfold balancedC
  rw [iv_cls]
  refine forall_congr' fun b => ?_
  have h1 := upS_tot b s.stocks s.scrap (h b)
  rw [upP_tot b _ _ (by rw [h1]; exact w_idem _), h1, w_add]
theorem sum_putAt {α : Type} (f : α -> Int) (l : List α) (i : Nat) (x : α) : ((putAt l i x).map f).sum = (l.map f).sum + f x := by
  have h : (l.map f).sum = ((l.take i).map f).sum + ((l.drop i).map f).sum := by rw [<- List.sum_append, <- List.map_append, List.take_append_drop]
  unfold putAt
  rw [h, List.map_append, List.sum_append, List.map_cons, List.sum_cons]
  omega
theorem sum_outAt {α : Type} (f : α -> Int) {l : List α} {i : Nat} {x : α} (hx : l[i]? = some x) : ((outAt l i).map f).sum = (l.map f).sum - f x := by
  obtain ⟨hi, hx⟩ := List.getElem?_eq_some_iff.1 hx
  have h : (l.map f).sum = ((l.take i).map f).sum + ((l.drop i).map f).sum := by rw [<- List.sum_append, <- List.map_append, List.take_append_drop]
  rw [List.drop_eq_getElem_cons hi, hx, List.map_cons, List.sum_cons] at h
  unfold outAt
  rw [h, List.map_append, List.sum_append]
  omega
theorem sum_set {α : Type} (f : α -> Int) {l : List α} {i : Nat} {x y : α} (hx : l[i]? = some x) (hy : f y = f x) : ((l.set i y).map f).sum = (l.map f).sum := by
  rw [set_key (key := f) hx hy]
theorem sum_fold {α : Type} (f : α -> Int) (key : α -> Int) : ∀ (xs l : List α), ((xs.foldl (putK key) l).map f).sum = (l.map f).sum + (xs.map f).sum
  | [], l => by simp
  | x :: xs, l => by
    rw [List.foldl_cons, sum_fold f key xs, show putK key l x = putAt l (bs key l (key x)) x from rfl, sum_putAt, List.map_cons, List.sum_cons]
    omega
def R6 (n : Int) : Prop := -9223372036854775808 <= n /\ n <= 9223372036854775807
theorem sub1_ok {n c : Int} (hn : R6 n) (hc : 0 <= c) (h : 0 <= sub1 n c) : sub1 n c = n - c /\ c <= n := by
  unfold sub1 at h ⊢
  unfold R6 at hn
  rw [minI_eq] at h ⊢
  by_cases h1 : n = 9223372036854775807
  · subst h1
    have e : W (9223372036854775807 + 1) = -9223372036854775808 := by decide
    rw [e, Int.min_eq_right (by omega)] at h
    exact absurd h (by decide)
  · rw [w_in (n := n + 1) (by omega)] at h ⊢
    by_cases h2 : c <= n + 1
    · rw [Int.min_eq_left h2] at h ⊢
      rw [w_in (by omega)] at h ⊢
      omega
    · rw [Int.min_eq_right (by omega), w_in (by omega)] at h
      omega
theorem sub1_range (n c : Int) : R6 (sub1 n c) := w_range _
theorem subL_ok : ∀ (l : List Int) (n : Int), R6 n -> (∀ c ∈ l, 0 <= c) -> 0 <= subL n l -> subL n l = n - l.sum /\ 0 <= n /\ ∀ c ∈ l, c <= n
  | [], n, hn, _, h => ⟨by show n = n - 0; omega, h, by simp⟩
  | c :: l, n, hn, hc, h => by
    have e : subL n (c :: l) = subL (sub1 n c) l := rfl
    rw [e] at h ⊢
    have hc0 := hc c (by simp)
    obtain ⟨q1, q2, q3⟩ := subL_ok l (sub1 n c) (sub1_range n c) (fun x hx => hc x (by simp [hx])) h
    obtain ⟨q4, q5⟩ := sub1_ok hn hc0 q2
    refine ⟨?_, by omega, fun x hx => ?_⟩
    · rw [q1, q4, List.sum_cons]; omega
    · rcases List.mem_cons.1 hx with rfl | hx
      · exact q5
      · have := q3 x hx; omega
theorem area_nonneg (o : Rg) : 0 <= area2S ⟨o, []⟩ := by
  unfold area2S
  split
  · rename_i h
    have ho : ringOk o := h.2.1 o (by simp [rings])
    have ha : 0 < areaR o := ho.2.2.2.1
    have e : area2R o = areaR o := if_pos ho
    show 0 <= W (W (2 * area2R o) - area2R o)
    rw [e, Int.sub_eq_add_neg, w_add]
    have hr : -9223372036854775808 <= areaR o /\ areaR o <= 9223372036854775807 := by
      unfold areaR
      cases hn : o.length with
      | zero => have := ho.1; omega
      | succ n => rw [areaN_succ]; exact w_range _
    rw [w_in (by omega)]
    omega
  · exact Int.le_refl 0
theorem area_range (s : Sh) : R6 (area2S s) := by
  unfold area2S
  split
  · unfold lessAreas rings
    have key : ∀ (l : List Rg) (a : Int), R6 a -> R6 (l.foldl (fun a r => W (a - area2R r)) a) := by
      intro l
      induction l with
      | nil => exact fun a h => h
      | cons x l ih => exact fun a _ => ih _ (w_range _)
    exact key _ _ (w_range _)
  · exact ⟨by decide, by decide⟩
theorem rect_holes (b : Bx) (v : Vc) : (rectC b v).holes = [] := by
  have key : (canonS (rectS (vsub b.1 v) (vsub b.2 v))).holes = [] := by
    have hr : (rectS (vsub b.1 v) (vsub b.2 v)).holes = [] := by
      unfold rectS
      split <;> rfl
    by_cases h : shapeOk (rectS (vsub b.1 v) (vsub b.2 v))
    · rw [canonS_t h]
      show canonH _ = []
      unfold canonH
      rw [hr]
      rfl
    · rw [canonS_f h]; rfl
  exact key
theorem sizeR_nonneg {x : Stock} {r : Rest} (h : restE x r = 0) (hb : x.isBar = true -> R6 x.bar.length) : 0 <= sizeK (restS x r) /\ (restS x r).isBar = x.isBar := by
  unfold restS
  by_cases hx : x.isBar = false
  · rw [if_pos hx]
    unfold restE at h
    rw [if_pos hx] at h
    by_cases h1 : r.lo ≠ 0 \/ r.hi ≠ 0
    · rw [if_pos h1] at h; cases h
    · rw [if_neg h1] at h ⊢
      refine ⟨?_, hx.symm⟩
      show 0 <= area2S (remS x.sheet r.box r.id).shape
      unfold remS
      rw [if_pos h]
      show 0 <= area2S (rectC r.box r.box.1)
      have e : rectC r.box r.box.1 = ⟨(rectC r.box r.box.1).outer, []⟩ := by
        have := rect_holes r.box r.box.1
        cases hq : rectC r.box r.box.1 with
        | mk o hs => rw [hq] at this; show Sh.mk o hs = ⟨o, []⟩; rw [show hs = [] from this]
      rw [e]
      exact area_nonneg _
  · rw [if_neg hx, if_pos h]
    have hx' : x.isBar = true := by cases hq : x.isBar with
      | true => rfl
      | false => exact absurd hq hx
    refine ⟨?_, hx'.symm⟩
    show 0 <= W (r.hi - r.lo)
    unfold restE at h
    rw [if_neg hx] at h
    split at h
    · cases h
    · split at h
      · cases h
      · rename_i h2
        have := hb hx'
        unfold R6 at this
        rw [w_in (by omega)]
        omega
end Go.Proofs.Led
