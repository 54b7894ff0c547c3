/-
  The inventory: sizes add up, and identities are different, behind each event.
-/
import Derived.Test.YtkhhdojgbkophaaGreatH39
set_option linter.unusedVariables false
set_option linter.unusedSimpArgs false
namespace Go.Proofs.Led
open Go Go.Proofs Go.Ab
set_option maxRecDepth 100000
set_option maxHeartbeats 4000000
structure Bal (s : Inv56) : Prop where
  sc : inR s.scrap
  eq : ∀ b, W (cls b s.scrap + totS b s.stocks + totP b s.pieces) = cls b s.received
  ps : ∀ p ∈ s.pieces, 1 <= p.size /\ p.size <= 9223372036854775807
  br : ∀ x ∈ s.stocks, R6 (sizeK x)
theorem bal0 : Bal inv0 := ⟨fun b => by cases b <;> decide, fun b => by cases b <;> decide, by simp [inv0], by simp [inv0]⟩
theorem bal_of {s : Inv56} (h : Bal s) : balancedC s := (balanced_iff h.sc).2 h.eq
theorem unbal {s : Inv56} (h : Bal s) {p : Piece} {l : List Piece} (hp : s.pieces = p :: l) : ¬ balancedC { s with pieces := l } := by
  intro hb
  have h1 := (balanced_iff (s := { s with pieces := l }) h.sc).1 hb p.isBar
  have h2 := h.eq p.isBar
  have e : totP p.isBar s.pieces = p.size + totP p.isBar l := by rw [hp]; unfold totP; simp
  have h3 : W (cls p.isBar s.scrap + totS p.isBar s.stocks + totP p.isBar l) = cls p.isBar s.received := h1
  rw [e, <- h3] at h2
  obtain ⟨q1, q2⟩ := h.ps p (by rw [hp]; simp)
  obtain ⟨a, ha⟩ := w_mod (cls p.isBar s.scrap + totS p.isBar s.stocks + (p.size + totP p.isBar l))
  obtain ⟨c, hc⟩ := w_mod (cls p.isBar s.scrap + totS p.isBar s.stocks + totP p.isBar l)
  omega
theorem sum_if {α : Type} (p : α -> Bool) (f : α -> Int) (c b : Bool) : ∀ (l : List α), (∀ x ∈ l, p x = c) -> (l.map fun x => if p x = b then f x else 0).sum = if c = b then (l.map f).sum else 0
  | [], _ => by simp
  | x :: l, h => by
    rw [List.map_cons, List.sum_cons, sum_if p f c b l (fun y hy => h y (by simp [hy])), h x (by simp), List.map_cons, List.sum_cons]
    split
    · rfl
    · rfl
theorem subL_range : ∀ (l : List Int) (n : Int), R6 n -> R6 (subL n l)
  | [], n, h => h
  | c :: l, n, h => subL_range l (sub1 n c) (sub1_range n c)
theorem valid_size {e : Event} {x : Stock} (hx : (e.kind = 1 /\ x = ⟨false, e.sheet, bar0, emptyB⟩ /\ validSheetC e.sheet) \/ (e.kind = 2 /\ x = ⟨true, sheet0, e.bar, emptyB⟩ /\ validBarC e.bar)) : R6 (sizeK x) /\ identC (sid x) := by
  rcases hx with ⟨_, rfl, h⟩ | ⟨_, rfl, h⟩
  · exact ⟨area_range _, h.1.1, h.1.2.1⟩
  · refine ⟨?_, h.1.1, h.1.2.1⟩
    show R6 e.bar.length
    have h1 := h.2.1
    have h2 := h.2.2.1
    unfold R6
    omega
theorem pieces5 (s : Inv56) (e : Event) (k : Nat) (m : Stock) : (cut5 s e k m).pieces = (e.cuts.map (pieceOf e m)).foldl (putK Piece.id) s.pieces := by
  show e.cuts.foldl (fun p x => putP p (pieceOf e m x)) s.pieces = _
  rw [List.foldl_map]; rfl
theorem stocks5 (s : Inv56) (e : Event) (k : Nat) (m : Stock) : (cut5 s e k m).stocks = (restsL m e.rests).foldl (putK sid) (outAt s.stocks k) := rfl
theorem fst_mem {α : Type} {l : List α} {k : Nat} {x : α} (h : l[k]? = some x) : x ∈ l := List.mem_of_getElem? h
theorem restsL_mem {m : Stock} {l : List Rest} (hr : restsE m [] l = 0) {x : Stock} (hx : x ∈ restsL m l) : ∃ r ∈ l, x = restS m r /\ restE m r = 0 := by
  rw [restsL_eq hr] at hx
  obtain ⟨r, h1, h2⟩ := List.mem_map.1 hx
  exact ⟨r, h1, h2.symm, restsE_all hr r h1⟩
theorem size_bar {x : Stock} (h : R6 (sizeK x)) : x.isBar = true -> R6 x.bar.length := fun hb => by unfold sizeK at h; rw [if_pos hb] at h; exact h
theorem rest_size {m : Stock} {r : Rest} (h : restE m r = 0) : R6 (sizeK (restS m r)) := by
  unfold restS
  split
  · split
    · exact area_range _
    · exact area_range _
  · exact w_range _
theorem bal_step {s s' : Inv56} {e : Event} (hb : Bal s) (hs : Step s e s') : Bal s' := by
  cases hs with
  | recv x hx hn =>
    obtain ⟨v1, v2⟩ := valid_size hx
    refine ⟨hb.sc, fun b => ?_, hb.ps, fun y hy => ?_⟩
    · show W (cls b s.scrap + totS b (putAt s.stocks _ x) + totP b s.pieces) = cls b (plus x.isBar s.received (sizeK x))
      have h1 : totS b (putAt s.stocks (bs sid s.stocks (sid x)) x) = totS b s.stocks + if x.isBar = b then sizeK x else 0 := sum_putAt _ _ _ _
      rw [h1, cls_plus, <- hb.eq b]
      split
      · rw [w_add]; congr 1; omega
      · congr 1; omega
    · rcases mem_putAt.1 hy with rfl | hy
      · exact v1
      · exact hb.br y hy
  | setK k m p hk hm hid =>
    refine ⟨hb.sc, fun b => ?_, hb.ps, fun y hy => ?_⟩
    · have h1 : totS b (s.stocks.set k (prog m p)) = totS b s.stocks := sum_set _ hm rfl
      show W (cls b s.scrap + totS b (s.stocks.set k (prog m p)) + totP b s.pieces) = cls b s.received
      rw [h1]; exact hb.eq b
    · rcases mem_set hy with rfl | hy
      · exact hb.br m (mem_of_get hm)
      · exact hb.br y hy
  | disc k m hk hm hid =>
    refine ⟨inR_plus hb.sc, fun b => ?_, hb.ps, fun y hy => hb.br y ((out_sub _ _).subset hy)⟩
    show W (cls b (plus m.isBar s.scrap (sizeK m)) + totS b (outAt s.stocks k) + totP b s.pieces) = cls b s.received
    have h1 : totS b (outAt s.stocks k) = totS b s.stocks - if m.isBar = b then sizeK m else 0 := sum_outAt _ hm
    rw [h1, cls_plus, <- hb.eq b]
    split
    · rw [Int.add_assoc, w_add]; congr 1; omega
    · congr 1; omega
  | setP k m st o hk hm hst hid =>
    refine ⟨hb.sc, fun b => ?_, fun y hy => ?_, hb.br⟩
    · have h1 : totP b (s.pieces.set k (marked m st o)) = totP b s.pieces := sum_set _ hm rfl
      show W (cls b s.scrap + totS b s.stocks + totP b (s.pieces.set k (marked m st o))) = cls b s.received
      rw [h1]; exact hb.eq b
    · rcases mem_set hy with rfl | hy
      · exact hb.ps m (mem_of_get hm)
      · exact hb.ps y hy
  | cut k m hk hf hfr hm hid hp hr hl =>
    have hm6 := hb.br m (mem_of_get hm)
    have hsc : 0 <= e.scrap := hf.2.2.2.2.1
    unfold leftK at hl
    have a1 : R6 (subL (sizeK m) (e.cuts.map Made.size)) := subL_range _ _ hm6
    obtain ⟨p1, p2, p3⟩ := subL_ok _ _ a1 (fun c hc => by
      obtain ⟨x, hx, rfl⟩ := List.mem_map.1 hc
      obtain ⟨r, h1, rfl, h3⟩ := restsL_mem hr hx
      exact (sizeR_nonneg h3 (size_bar hm6)).1) (by omega)
    obtain ⟨q1, q2, q3⟩ := subL_ok _ _ hm6 (fun c hc => by
      obtain ⟨x, hx, rfl⟩ := List.mem_map.1 hc
      have := (hf.1 x hx).2.2
      omega) p2
    refine ⟨inR_plus hb.sc, fun b => ?_, fun y hy => ?_, fun y hy => ?_⟩
    · have h1 : totS b (cut5 s e k m).stocks = totS b s.stocks - (if m.isBar = b then sizeK m else 0) + if m.isBar = b then ((restsL m e.rests).map sizeK).sum else 0 := by
        rw [stocks5]
        unfold totS
        rw [sum_fold, sum_outAt _ hm, sum_if (fun x : Stock => x.isBar) sizeK m.isBar b (restsL m e.rests) (fun x hx => by
          obtain ⟨r, h1, rfl, h3⟩ := restsL_mem hr hx
          exact (sizeR_nonneg h3 (size_bar hm6)).2)]
      have h2 : totP b (cut5 s e k m).pieces = totP b s.pieces + if m.isBar = b then (e.cuts.map Made.size).sum else 0 := by
        rw [pieces5]
        unfold totP
        rw [sum_fold, sum_if (fun x : Piece => x.isBar) Piece.size m.isBar b (e.cuts.map (pieceOf e m)) (fun x hx => by
          obtain ⟨c, h1, rfl⟩ := List.mem_map.1 hx
          rfl), List.map_map]
        rfl
      rw [h1, h2]
      show W (cls b (plus m.isBar s.scrap e.scrap) + _ + _) = cls b s.received
      rw [cls_plus, <- hb.eq b]
      split
      · rw [Int.add_assoc, w_add]; congr 1; omega
      · congr 1; omega
    · rw [pieces5] at hy
      have hy2 : y ∈ s.pieces \/ y ∈ e.cuts.map (pieceOf e m) := by
        have key : ∀ (xs l : List Piece), y ∈ xs.foldl (putK Piece.id) l -> y ∈ l \/ y ∈ xs := by
          intro xs
          induction xs with
          | nil => exact fun l h => .inl h
          | cons x xs ih =>
            intro l h
            rcases ih _ h with h | h
            · rcases mem_putAt.1 h with rfl | h
              · exact .inr (by simp)
              · exact .inl h
            · exact .inr (by simp [h])
        exact key _ _ hy
      rcases hy2 with hy | hy
      · exact hb.ps y hy
      · obtain ⟨c, hc, rfl⟩ := List.mem_map.1 hy
        have h1 := (hf.1 c hc).2.2
        have h2 := q3 c.size (List.mem_map_of_mem hc)
        unfold R6 at hm6
        exact ⟨h1, by show c.size <= _; omega⟩
    · rw [stocks5] at hy
      have hy2 : y ∈ outAt s.stocks k \/ y ∈ restsL m e.rests := by
        have key : ∀ (xs l : List Stock), y ∈ xs.foldl (putK sid) l -> y ∈ l \/ y ∈ xs := by
          intro xs
          induction xs with
          | nil => exact fun l h => .inl h
          | cons x xs ih =>
            intro l h
            rcases ih _ h with h | h
            · rcases mem_putAt.1 h with rfl | h
              · exact .inr (by simp)
              · exact .inl h
            · exact .inr (by simp [h])
        exact key _ _ hy
      rcases hy2 with hy | hy
      · exact hb.br y ((out_sub _ _).subset hy)
      · obtain ⟨r, h1, rfl, h3⟩ := restsL_mem hr hy
        exact rest_size h3
structure Ids (s : Inv56) : Prop where
  dj : ∀ x ∈ s.stocks, ∀ p ∈ s.pieces, sid x ≠ p.id
  par : ∀ p ∈ s.pieces, p.parent ∈ s.used
  rng : ∀ n ∈ s.used, identC n
theorem ids0 : Ids inv0 := ⟨by simp [inv0], by simp [inv0], by simp [inv0]⟩
theorem ids_step {s s' : Inv56} {e : Event} {n : Nat} (h : Ok s n) (hi : Ids s) (hs : Step s e s') : Ids s' /\ ∀ y ∈ s.used, y ∈ s'.used := by
  cases hs with
  | recv x hx hn =>
    obtain ⟨v1, v2⟩ := valid_size hx
    have hmu : ∀ y, y ∈ putN s.used (sid x) ↔ y = sid x \/ y ∈ s.used := fun y => mem_putAt
    refine ⟨⟨fun y hy p hp => ?_, fun p hp => (hmu _).2 (.inr (hi.par p hp)), fun y hy => ?_⟩, fun y hy => (hmu _).2 (.inr hy)⟩
    · rcases mem_putAt.1 hy with rfl | hy
      · intro e; exact hn (by rw [e]; exact h.up p hp)
      · exact hi.dj y hy p hp
    · rcases (hmu _).1 hy with rfl | hy
      · exact v2
      · exact hi.rng y hy
  | setK k m p hk hm hid =>
    refine ⟨⟨fun y hy q hq => ?_, hi.par, hi.rng⟩, fun y hy => hy⟩
    rcases mem_set hy with rfl | hy
    · exact hi.dj m (mem_of_get hm) q hq
    · exact hi.dj y hy q hq
  | disc k m hk hm hid => exact ⟨⟨fun y hy q hq => hi.dj y ((out_sub _ _).subset hy) q hq, hi.par, hi.rng⟩, fun y hy => hy⟩
  | setP k m st o hk hm hst hid =>
    refine ⟨⟨fun y hy q hq => ?_, fun q hq => ?_, hi.rng⟩, fun y hy => hy⟩
    · rcases mem_set hq with rfl | hq
      · exact hi.dj y hy m (mem_of_get hm)
      · exact hi.dj y hy q hq
    · rcases mem_set hq with rfl | hq
      · exact hi.par m (mem_of_get hm)
      · exact hi.par q hq
  | cut k m hk hf hfr hm hid hp hr hl =>
    obtain ⟨a1, a2, a3⟩ := cut3_facts (k := k) h hfr hr (List.append_nil _).symm
    obtain ⟨b1, b2, b3⟩ := cut4_facts (m := m) h hfr (List.append_nil _).symm
    obtain ⟨f1, f2⟩ := fresh_iff.1 hfr
    have hidm : ∀ x ∈ restsL m e.rests, sid x ∈ e.rests.map Rest.id := fun x hx => by rw [<- restsL_id hr]; exact List.mem_map_of_mem hx
    have hu : ∀ y, y ∈ freshL s.used (idsOf e) ↔ y ∈ s.used \/ y ∈ idsOf e := fun y => freshL_mem
    unfold idsOf at f1 f2
    rw [List.pairwise_append] at f2
    refine ⟨⟨fun y hy q hq => ?_, fun q hq => ?_, fun y hy => ?_⟩, fun y hy => (hu y).2 (.inl hy)⟩
    · rcases (a2 y).1 hy with hy | hy <;> rcases (b2 q).1 hq with hq | hq
      · exact hi.dj y ((out_sub _ _).subset hy) q hq
      · obtain ⟨c, hc, rfl⟩ := List.mem_map.1 hq
        intro e2
        have e3 : sid y = c.id := e2
        exact f1 c.id (by simp only [List.mem_append]; exact .inl (List.mem_map_of_mem hc)) (by rw [<- e3]; exact h.us y ((out_sub _ _).subset hy))
      · intro e2
        exact f1 (sid y) (by simp only [List.mem_append]; exact .inr (hidm y hy)) (by rw [e2]; exact h.up q hq)
      · obtain ⟨c, hc, rfl⟩ := List.mem_map.1 hq
        intro e2
        exact f2.2.2 c.id (List.mem_map_of_mem hc) (sid y) (hidm y hy) e2.symm
    · refine (hu _).2 (.inl ?_)
      rcases (b2 q).1 hq with hq | hq
      · exact hi.par q hq
      · obtain ⟨c, hc, rfl⟩ := List.mem_map.1 hq
        show e.id ∈ _
        rw [<- hid]
        exact h.us m (mem_of_get hm)
    · rcases (hu y).1 hy with hy | hy
      · exact hi.rng y hy
      · unfold idsOf at hy
        rcases List.mem_append.1 hy with hy | hy
        · obtain ⟨c, hc, rfl⟩ := List.mem_map.1 hy
          exact (hf.1 c hc).1
        · obtain ⟨r, hr', rfl⟩ := List.mem_map.1 hy
          exact (hf.2.1 r hr').1
theorem app_recvS {s : Inv56} {e : Event} (hf : formedC e) (hk : e.kind = 1) : appR s e = recvR s ⟨false, e.sheet, bar0, emptyB⟩ := by
  unfold appR stepR
  rw [if_pos hf, if_pos hk]
theorem app_recvB {s : Inv56} {e : Event} (hf : formedC e) (hk : e.kind = 2) : appR s e = recvR s ⟨true, sheet0, e.bar, emptyB⟩ := by
  unfold appR stepR
  rw [if_pos hf, if_neg (by omega), if_pos hk]
theorem recv_new {s : Inv56} {x : Stock} (h : sid x ∉ s.used) : recvR s x = (recvS s x, 0) := by unfold recvR; rw [if_neg h]
theorem recv_old {s : Inv56} {x : Stock} (h : sid x ∈ s.used) : recvR s x = (inv0, 7) := by unfold recvR; rw [if_pos h]
theorem with_some {s : Inv56} {n : Int} {m : Stock} {f : Stock -> Inv56 × Int} (h1 : ∃ m ∈ s.stocks, sid m = n) (h2 : s.stocks[bs sid s.stocks n]? = some m) : withS s n f = f m := by unfold withS; rw [if_pos h1, h2]
theorem with_none {s : Inv56} {n : Int} {f : Stock -> Inv56 × Int} (h1 : ¬ ∃ m ∈ s.stocks, sid m = n) : withS s n f = (inv0, 8) := by unfold withS; rw [if_neg h1]
theorem app_rel {s : Inv56} {e : Event} {m : Stock} (hf : formedC e) (hk : e.kind = 3) (h1 : ∃ m ∈ s.stocks, sid m = e.id) (h2 : s.stocks[bs sid s.stocks e.id]? = some m) (hp : m.program = emptyB) :
    appR s e = (setK s (bs sid s.stocks e.id) (prog m e.text), 0) := by
  unfold appR stepR
  rw [if_pos hf, if_neg (by omega), if_neg (by omega), if_pos hk]
  unfold relR
  rw [with_some h1 h2, if_pos hp]
theorem app_cut {s : Inv56} {e : Event} (hf : formedC e) (hk : e.kind = 5) : appR s e = cutR s e := by
  unfold appR stepR
  rw [if_pos hf, if_neg (by omega), if_neg (by omega), if_neg (by omega), if_neg (by omega), if_pos hk]
theorem cut_old {s : Inv56} {e : Event} (h : ¬ freshOk s.used (idsOf e)) : cutR s e = (inv0, 7) := by unfold cutR; rw [if_pos h]
theorem cut_none {s : Inv56} {e : Event} (h : freshOk s.used (idsOf e)) (h1 : ¬ ∃ m ∈ s.stocks, sid m = e.id) : cutR s e = (inv0, 8) := by unfold cutR; rw [if_neg (Classical.not_not.2 h), with_none h1]
theorem cut_some {s : Inv56} {e : Event} {m : Stock} (h : freshOk s.used (idsOf e)) (h1 : ∃ m ∈ s.stocks, sid m = e.id) (h2 : s.stocks[bs sid s.stocks e.id]? = some m) :
    cutR s e = open Classical in if m.program = emptyB then (inv0, 10) else if restsE m [] e.rests ≠ 0 then (inv0, restsE m [] e.rests) else if leftK m e ≠ e.scrap then (inv0, 29) else (cut5 s e (bs sid s.stocks e.id) m, 0) := by
  unfold cutR
  rw [if_neg (Classical.not_not.2 h), with_some h1 h2]
def withScrap (e : Event) (c : Int) : Event := { e with scrap := c }
theorem refused {s : Inv56} {e : Event} {n : Nat} {c : Int} (h : Ok s n) (h0 : (appR s e).2 = 0) (hk : e.kind = 5) (hc : c ≠ e.scrap) :
    appR s (withScrap e c) = (inv0, 29) \/ appR s (withScrap e c) = (inv0, 1) := by
  by_cases hf : formedC (withScrap e c)
  rotate_left
  · right
    unfold appR
    rw [if_neg hf]
  left
  have hfe := (step_of h h0).1
  rw [app_cut hfe hk] at h0
  rw [app_cut hf hk]
  by_cases c1 : freshOk s.used (idsOf e)
  rotate_left
  · rw [cut_old c1] at h0; cases h0
  by_cases h1 : ∃ m ∈ s.stocks, sid m = e.id
  rotate_left
  · rw [cut_none c1 h1] at h0; cases h0
  obtain ⟨m, h2, h3⟩ := bs_found h.ss h1
  rw [cut_some c1 h1 h2] at h0
  rw [cut_some (e := withScrap e c) (m := m) c1 h1 h2]
  by_cases c2 : m.program = emptyB
  · rw [if_pos c2] at h0; cases h0
  rw [if_neg c2] at h0 ⊢
  have er : (withScrap e c).rests = e.rests := rfl
  rw [er]
  by_cases c3 : restsE m [] e.rests ≠ 0
  · rw [if_pos c3] at h0; exact absurd h0 c3
  rw [if_neg c3] at h0 ⊢
  by_cases c4 : leftK m e ≠ e.scrap
  · rw [if_pos c4] at h0; cases h0
  have c5 : leftK m (withScrap e c) ≠ (withScrap e c).scrap := fun hh => hc (hh.symm.trans (Classical.not_not.1 c4))
  rw [if_pos c5]
theorem scrap_other {n d : Int} (hd : d ≠ 0 /\ -1000 <= d /\ d <= 1000) : W (n + d) ≠ n := by
  obtain ⟨k, hk⟩ := w_mod (n + d)
  omega
def recvEv (b : Bar) : Event := ⟨2, 0, emptyB, sheet0, b, [], [], 0⟩
theorem no0 : noSheetC sheet0 := ⟨rfl, rfl, rfl, rfl, rfl, rfl, rfl⟩
theorem nob0 : noBarC bar0 := ⟨rfl, rfl, rfl, rfl, rfl⟩
theorem recvEv_formed {b : Bar} (h : validBarC b) : formedC (recvEv b) :=
  ⟨fun _ => ⟨rfl, rfl⟩, fun q => absurd (.inr rfl) q, fun _ => ⟨rfl, rfl, rfl⟩, fun q => (by cases q), fun _ => ⟨no0, h⟩, fun q => (by rcases q with q | q <;> cases q), fun q => (by rcases q with q | q | q <;> cases q), fun q => (by cases q), show (1 : Int) <= 2 by decide, show (2 : Int) <= 8 by decide⟩
def relEv (n : Int) (t : ByteArray) : Event := ⟨3, n, t, sheet0, bar0, [], [], 0⟩
theorem relEv_formed {n : Int} {t : ByteArray} (h : isName t) : formedC (relEv n t) :=
  ⟨fun q => (by rcases q with q | q <;> cases q), fun _ => ⟨no0, nob0⟩, fun _ => ⟨rfl, rfl, rfl⟩, fun q => (by cases q), fun q => (by cases q), fun _ => h, fun q => (by rcases q with q | q | q <;> cases q), fun q => (by cases q), show (1 : Int) <= 3 by decide, show (3 : Int) <= 8 by decide⟩
def cutEv (n : Int) (c : List Made) (r : List Rest) (z : Int) : Event := ⟨5, n, emptyB, sheet0, bar0, c, r, z⟩
theorem cutEv_formed {n : Int} {c : List Made} {r : List Rest} {z : Int} (h1 : ∀ x ∈ c, madeC x) (h2 : ∀ x ∈ r, restC x) (h3 : c.length <= 60) (h4 : r.length <= 6) (h5 : 0 <= z) : formedC (cutEv n c r z) :=
  ⟨fun q => (by rcases q with q | q <;> cases q), fun _ => ⟨no0, nob0⟩, fun q => absurd rfl q, fun q => (by cases q), fun q => (by cases q), fun q => (by rcases q with q | q <;> cases q), fun q => (by rcases q with q | q | q <;> cases q), fun _ => ⟨h1, h2, h3, h4, h5, rfl⟩, show (1 : Int) <= 5 by decide, show (5 : Int) <= 8 by decide⟩
def chB (c : UInt8) : ByteArray := ⟨#[c]⟩
theorem ch_name {c : UInt8} (h : 97 <= c.toNat /\ c.toNat <= 122) : isName (chB c) := by
  have hb : byteAt (chB c) 0 = (c.toNat : Int) := by unfold byteAt; rfl
  refine ⟨Nat.le_refl 1, show (1 : Nat) <= 16 by decide, ?_, fun i hi => ?_⟩
  · rw [hb]; exact .inl (by omega)
  · have h1 : (chB c).size = 1 := rfl
    have : i = 0 := by omega
    subst this
    rw [hb]; exact .inl (.inl (by omega))
theorem used_again {s : Inv56} (h : Ids s) {n : Int} (hn : n ∈ s.used) : appR s (recvEv ⟨n, chB 115, chB 104, 1, []⟩) = (inv0, 7) := by
  have hv : validBarC ⟨n, chB 115, chB 104, 1, []⟩ := ⟨⟨(h.rng n hn).1, (h.rng n hn).2, ch_name (by decide), ch_name (by decide)⟩, show (1 : Int) <= 1 by decide, show (1 : Int) <= 2000 by decide, Nat.zero_le 6, trivial⟩
  rw [app_recvB (recvEv_formed hv) rfl]
  exact recv_old hn
theorem ok_step {s s' : Inv56} {e : Event} {n : Nat} (h : Ok s n) (hs : Step s e s') : Ok s' (n + more e) := by
  have hm : 1 <= more e := by unfold more; omega
  cases hs with
  | recv x hx hn =>
    refine (ok_recv h ?_ hn).mono (by omega)
    rcases hx with ⟨_, rfl, h⟩ | ⟨_, rfl, h⟩
    · exact ⟨valid_sized h, Nat.zero_le _⟩
    · exact ⟨sh0_sized, Nat.le_trans h.2.2.2.1 (by decide)⟩
  | setK k m p hk hm hid => exact (ok_setK h hm p).mono (by omega)
  | disc k m hk hm hid => exact (ok_disc h k m).mono (by omega)
  | setP k m st o hk hm hst hid => exact (ok_setP h hm st o).mono (by omega)
  | cut k m hk hf hfr hm hid hp hr hl => exact ok_scrap ((ok_cut4 (R := []) (Q := []) h hm hfr hr (List.append_nil _).symm (List.append_nil _).symm).mono (by unfold more; omega)) _
structure Good (s : Inv56) (n : Nat) : Prop where
  ok : Ok s n
  bal : Bal s
  ids : Ids s
theorem good0 : Good inv0 0 := ⟨ok0, bal0, ids0⟩
theorem good_step {s : Inv56} {e : Event} {n : Nat} (h : Good s n) (h0 : (appR s e).2 = 0) : Good (appR s e).1 (n + more e) := by
  have hs := (step_of h.ok h0).2
  exact ⟨ok_step h.ok hs, bal_step h.bal hs, (ids_step h.ok h.ids hs).1⟩
theorem Good.mono {s : Inv56} {n m : Nat} (h : Good s n) (hn : n <= m) : Good s m := ⟨h.ok.mono hn, h.bal, h.ids⟩
noncomputable def replayF (s : Inv56) (i : Int) : List Event -> Inv56 × Int × Int
  | [] => (s, i, 0)
  | x :: l => if (appR s x).2 = 0 then replayF (appR s x).1 (i + 1) l else (s, i, (appR s x).2)
def barS (b : Bar) (p : ByteArray) : Stock := ⟨true, sheet0, b, p⟩
noncomputable def st1 (b : Bar) : Inv56 := recvS inv0 (barS b emptyB)
theorem st1_eq (b : Bar) : st1 b = ⟨[barS b emptyB], [], [b.id], (0, W (0 + b.length)), (0, 0)⟩ := rfl
noncomputable def st2 (b : Bar) (p : ByteArray) : Inv56 := ⟨[barS b p], [], [b.id], (0, W (0 + b.length)), (0, 0)⟩
theorem bar_one {b : Bar} {p : ByteArray} {q : List Piece} {u : List Int} {r c : Iv} : (∃ m ∈ (Inv56.mk [barS b p] q u r c).stocks, sid m = b.id) /\ (Inv56.mk [barS b p] q u r c).stocks[bs sid [barS b p] b.id]? = some (barS b p) /\ bs sid [barS b p] b.id = 0 := by
  have h0 : bs sid [barS b p] b.id = 0 := by
    unfold bs
    have : decide (sid (barS b p) < b.id) = false := decide_eq_false (by show ¬ b.id < b.id; omega)
    simp [List.takeWhile, this]
  exact ⟨⟨barS b p, by simp, rfl⟩, by rw [h0]; rfl, h0⟩
theorem bar_cut {b : Bar} {p : ByteArray} {x : Event} (hb : validBarC b) (hp : isName p) (hx : formedC x) (hk : x.kind = 5) (hid : x.id = b.id) (hfr : freshOk [b.id] (idsOf x)) (hr : restsE (barS b p) [] x.rests = 0) (hl : leftK (barS b p) x = x.scrap) :
    replayF inv0 0 [recvEv b, relEv b.id p, x] = (cut5 (st2 b p) x 0 (barS b p), 3, 0) /\ appR inv0 (recvEv b) = (st1 b, 0) /\ appR (st1 b) (relEv b.id p) = (st2 b p, 0) /\ appR (st2 b p) x = (cut5 (st2 b p) x 0 (barS b p), 0) := by
  have e1 : appR inv0 (recvEv b) = (st1 b, 0) := by
    rw [app_recvB (recvEv_formed hb) rfl]
    exact recv_new (by simp [inv0])
  have e2 : appR (st1 b) (relEv b.id p) = (st2 b p, 0) := by
    obtain ⟨q1, q2, q3⟩ := bar_one (b := b) (p := emptyB) (q := []) (u := [b.id]) (r := (0, W (0 + b.length))) (c := (0, 0))
    rw [app_rel (s := st1 b) (relEv_formed hp) rfl (m := barS b emptyB) q1 q2 rfl]
    show (setK (st1 b) (bs sid [barS b emptyB] b.id) _, (0 : Int)) = _
    rw [q3]
    rfl
  have hne : p ≠ emptyB := by
    rintro rfl
    exact absurd hp.1 (by decide)
  have e3 : appR (st2 b p) x = (cut5 (st2 b p) x 0 (barS b p), 0) := by
    obtain ⟨q1, q2, q3⟩ := bar_one (b := b) (p := p) (q := []) (u := [b.id]) (r := (0, W (0 + b.length))) (c := (0, 0))
    rw [app_cut hx hk, cut_some (m := barS b p) hfr (by rw [hid]; exact q1) (by rw [hid]; exact q2), if_neg (show ¬ (barS b p).program = emptyB from hne), if_neg (Classical.not_not.2 hr), if_neg (Classical.not_not.2 hl), hid]
    show (cut5 (st2 b p) x (bs sid [barS b p] b.id) _, (0 : Int)) = _
    rw [q3]
  refine ⟨?_, e1, e2, e3⟩
  unfold replayF
  rw [e1, if_pos rfl]
  unfold replayF
  rw [e2, if_pos rfl]
  unfold replayF
  rw [e3, if_pos rfl]
  rfl
theorem subL_fwd : ∀ (l : List Int) (n : Int), R6 n -> n ≠ 9223372036854775807 -> (∀ c ∈ l, 0 <= c) -> l.sum <= n -> subL n l = n - l.sum
  | [], n, _, _, _, _ => by show n = n - 0; omega
  | c :: l, n, hn, hm, hc, hs => by
    have h0 := hc c (by simp)
    have hl : 0 <= l.sum := by
      have key : ∀ (l : List Int), (∀ x ∈ l, 0 <= x) -> 0 <= l.sum := by
        intro l
        induction l with
        | nil => simp
        | cons x l ih =>
          intro h
          have h1 := ih (fun y hy => h y (by simp [hy]))
          have h2 := h x (by simp)
          rw [List.sum_cons]; omega
      exact key l (fun x hx => hc x (by simp [hx]))
    rw [List.sum_cons] at hs
    unfold R6 at hn
    have e : sub1 n c = n - c := by
      unfold sub1
      rw [minI_eq, w_in (n := n + 1) (by omega), Int.min_eq_left (by omega), w_in (by omega)]
    show subL (sub1 n c) l = _
    rw [e, subL_fwd l (n - c) (by unfold R6; omega) (by omega) (fun x hx => hc x (by simp [hx])) (by omega), List.sum_cons]
    omega
end Go.Proofs.Led
namespace Go.Proofs.Led
open Go Go.Proofs Go.Ab
set_option maxRecDepth 100000
set_option maxHeartbeats 8000000
def moreL (l : List Event) : Nat := (l.map more).sum
theorem replay_spec (l : List Event) (he : ∀ e ∈ l, EvSized e) (hb : moreL l <= 1000000) (hl : l.length <= 1000000) : Sp 21 [.sl (l.map eventV)] (.tup [invV (replayF inv0 0 l).1, I (replayF inv0 0 l).2.1, I (replayF inv0 0 l).2.2]) := by
  refine zsp Tryz.func21 ?_
  have hm : (l.map eventV).length = l.length := by simp
  generalize hr : replayF inv0 0 l = q
  repeat' ((conv=>whnf);first|refine zg ?_)
  refine loop_3 (A := Inv56) (B := List Event) (C := List Event) (fun s D R => mkSt [(0, .sl (l.map eventV)), (2, .box 2 0), (3, I 0), (4, I 0), (9, .sl (l.map eventV)), (10, I l.length), (11, I D.length)] [(2, invC s)] []) (fun s D R => l = D ++ R /\ replayF s D.length R = q /\ ∃ n, Ok s n /\ n + moreL R <= 1000000) (fun s D R => R.length) inv0 [] l ?_ ⟨rfl, hr, 0, ok0, by omega⟩ (fun s D R hp => ?_)
  · show Le T _ (mkSt [(0, .sl (l.map eventV)), (2, .box 2 0), (3, I 0), (4, I 0), (9, .sl (l.map eventV)), (10, I l.length), (11, I 0)] [(2, invC inv0)] [])
    refine le_mk ?_ ?_ ?_ ?_
    all_goals repeat' (first | exact trivial | refine And.intro ?_ ?_ | with_reducible rfl | exact (fun h => by cases h) | exact Nat.le_refl _ | omega | exact rfl)
    all_goals (try rw [hm])
  obtain ⟨hp, hq, n, hn, hnl⟩ := hp
  cases R with
  | nil =>
    have hlen : l.length = D.length := by rw [hp]; simp
    have e : q = (s, (D.length : Int), 0) := by rw [<- hq]; rfl
    rw [e]
    repeat' ((conv=>whnf);first|(exfalso; omega)|refine zg ?_|refine zz (fun _=>?_) fun _=>?_|refine zr ?_)
    all_goals conv=>whnf
    refine ⟨_, rfl, ?_⟩
    rw [hm, hlen]
    (repeat' (first | exact trivial | refine And.intro ?_ ?_ | with_reducible rfl | exact (fun h => by cases h) | exact rfl)); done
  | cons e R =>
    have hlen := mid_len hp
    have em : moreL (e :: R) = more e + moreL R := by unfold moreL; simp
    have g := apply_spec hn (e := e) (by omega) (he e (by rw [hp]; simp))
    obtain ⟨g1, g2⟩ := g
    have hlD : ((D ++ [e]).length : Int) = (D.length : Int) + 1 := by simp
    have hqq : replayF s D.length (e :: R) = if (appR s e).2 = 0 then replayF (appR s e).1 ((D.length : Int) + 1) R else (s, (D.length : Int), (appR s e).2) := rfl
    rw [hqq] at hq
    generalize appR s e = a at *
    by_cases c : a.2 = 0
    · rw [if_pos c] at hq
      have g3 := g2 c
      rw [c] at g1
      repeat' ((conv=>whnf);first|(exfalso; omega)|refine need_len (l := l) (by omega) ?_|refine idx_mid (l := l) (A := D) (x := e) (B := R) hp (by omega) ?_|refine zc g1 ?_|refine zg ?_|refine za ?_|refine zn ?_|refine zz (fun _=>?_) fun _=>?_)
      all_goals conv=>whnf
      refine ⟨(a.1, D ++ [e], R), ?_, ⟨by rw [hp]; simp, by rw [hlD]; exact hq, n + more e, g3, by show n + more e + moreL R <= 1000000; omega⟩, by simp⟩
      simp only [List.length_append, List.length_singleton]
      exact zj
    · rw [if_neg c] at hq
      subst hq
      repeat' ((conv=>whnf);first|(exfalso; omega)|refine need_len (l := l) (by omega) ?_|refine idx_mid (l := l) (A := D) (x := e) (B := R) hp (by omega) ?_|refine zc g1 ?_|refine zg ?_|refine zn ?_|refine zz (fun _=>?_) fun _=>?_|refine zr ?_)
      all_goals conv=>whnf
      all_goals first|exact ret_int rfl|exact ret_bool rfl|exact ret_lit rfl|exact zt|exact zu
theorem has_spec (l : List Int) (n : Int) (hl : l.length <= 1000000) : Sp 28 [.sl (l.map I), I n] (DB (n ∈ l)) := by
  refine zsp Tryz.func28 ?_
  have hm : (l.map I).length = l.length := by simp
  generalize hP : (n ∈ l) = P
  repeat' ((conv=>whnf);first|refine zg ?_)
  refine loop_2 (A := List Int) (B := List Int) (fun D R => mkSt [(0, .sl (l.map I)), (1, I n), (5, I D.length)] [] []) (fun D R => l = D ++ R /\ n ∉ D) (fun D R => R.length) [] l ?_ ⟨rfl, by simp⟩ (fun D R hp => ?_)
  · exact zj
  obtain ⟨hp, hD⟩ := hp
  cases R with
  | nil =>
    have hlen : l.length = D.length := by rw [hp]; simp
    repeat' ((conv=>whnf);first|(exfalso; omega)|refine zg ?_|refine zz (fun _=>?_) fun _=>?_|refine zr ?_)
    all_goals conv=>whnf
    refine ret_boolD (dec_retf fun h => hD ?_)
    rw [<- hP, hp, List.append_nil] at h
    exact h
  | cons m R =>
    have hlen := mid_len hp
    repeat' ((conv=>whnf);first|(exfalso; omega)|refine need_len (l := l) (by omega) ?_|refine idx_mid (l := l) (A := D) (x := m) (B := R) hp (by omega) ?_|refine zg ?_|refine za ?_|refine zz (fun _=>?_) fun _=>?_|refine zr ?_)
    all_goals conv=>whnf
    · refine ret_boolD (dec_ret ?_)
      rw [<- hP, hp, ‹m = n›]
      simp
    · refine ⟨(D ++ [m], R), ?_, ⟨by rw [hp]; simp, fun h => ?_⟩, by simp⟩
      · simp only [List.length_append, List.length_singleton]
        exact zj
      · rcases List.mem_append.1 h with h | h
        · exact hD h
        · exact absurd (List.mem_singleton.1 h).symm (by assumption)
abbrev Len6 {α : Type} (l : List α) : Prop := l.length <= 9223372036854775807
def ownC (x : Event) (c r : V) : List V := [I x.kind, I x.id, S x.text, I x.sheet.id, S x.sheet.grade, S x.sheet.heat, I x.sheet.grain, rgV x.sheet.shape.outer, .sl (x.sheet.shape.holes.map rgV), .sl (x.sheet.defects.map shV),
  I x.bar.id, S x.bar.grade, S x.bar.heat, I x.bar.length, .sl (x.bar.defects.map ivV), c, r, I x.scrap]
abbrev zSheet : List V := [I 0, S emptyB, S emptyB, I 0, nilV, nilV, nilV]
abbrev zEvent : List V := [I 0, I 0, S emptyB, I 0, S emptyB, S emptyB, I 0, nilV, nilV, nilV, I 0, S emptyB, S emptyB, I 0, nilV, nilV, nilV, I 0]
def bV (k : Nat) : List V -> V
  | [] => nilV
  | _ :: l => .arr k l.length
def bA (k : Nat) (ty : TypeId) : List V -> List (Nat × AE)
  | [] => []
  | x :: l => [(k, ⟨l.length, .own, ty, x :: l⟩)]
noncomputable def ownS1 (x : Event) : List Made -> Int -> St
  | [], n => mkSt [(1, .box 1 0), (2, .box 2 0), (3, .box 3 0), (4, I n)] [(1, eventC x), (2, zEvent), (3, ownC x nilV nilV)] []
  | c :: C, n => mkSt [(1, .box 1 0), (2, .box 2 0), (3, .box 3 0), (4, I n)] [(1, eventC x), (2, zEvent), (3, ownC x (.arr 34 C.length) nilV)] [(34, ⟨C.length, .own, 82, (c :: C).map madeV⟩)]
noncomputable def ownS2 (x : Event) : List Made -> List Rest -> Int -> St
  | [], [], n => mkSt [(1, .box 1 0), (2, .box 2 0), (3, .box 3 0), (5, I n)] [(1, eventC x), (2, zEvent), (3, ownC x nilV nilV)] []
  | c :: C, [], n => mkSt [(1, .box 1 0), (2, .box 2 0), (3, .box 3 0), (5, I n)] [(1, eventC x), (2, zEvent), (3, ownC x (.arr 34 C.length) nilV)] [(34, ⟨C.length, .own, 82, (c :: C).map madeV⟩)]
  | [], r :: R, n => mkSt [(1, .box 1 0), (2, .box 2 0), (3, .box 3 0), (5, I n)] [(1, eventC x), (2, zEvent), (3, ownC x nilV (.arr 51 R.length))] [(51, ⟨R.length, .own, 80, (r :: R).map restV⟩)]
  | c :: C, r :: R, n => mkSt [(1, .box 1 0), (2, .box 2 0), (3, .box 3 0), (5, I n)] [(1, eventC x), (2, zEvent), (3, ownC x (.arr 34 C.length) (.arr 51 R.length))] [(34, ⟨C.length, .own, 82, (c :: C).map madeV⟩), (51, ⟨R.length, .own, 80, (r :: R).map restV⟩)]
theorem made_cells (l : List Made) : ∀ y ∈ l.map madeV, y.cells.length = 3 := fun y hy => by obtain ⟨m, _, rfl⟩ := List.mem_map.1 hy; rfl
theorem rest_cells (l : List Rest) : ∀ y ∈ l.map restV, y.cells.length = 7 := fun y hy => by obtain ⟨m, _, rfl⟩ := List.mem_map.1 hy; rfl
theorem own_spec (x : Event) (hc : x.cuts.length <= 1000000) (hr : x.rests.length <= 1000000) : Sp 15 [eventV x] (eventV x) := by
  refine zsp Tryz.func15 ?_
  have hm1 : (x.cuts.map madeV).length = x.cuts.length := by simp
  have hm2 : (x.rests.map restV).length = x.rests.length := by simp
  repeat' ((conv=>whnf);first|refine zg ?_)
  refine loop_2 (A := List Made) (B := List Made) (fun D R => ownS1 x D D.length) (fun D R => x.cuts = D ++ R) (fun D R => R.length) [] x.cuts ?_ rfl (fun D R hp => ?_)
  · show Le T _ (ownS1 x [] 0)
    exact zj
  cases R with
  | cons c R =>
    have hlen := mid_len hp
    have hlD : ((D ++ [c]).length : Int) = (D.length : Int) + 1 := by simp
    cases D with
    | nil =>
      have h00 : ([] : List Made).length = 0 := rfl
      repeat' ((conv=>whnf);first|(exfalso; omega)|refine need_len (l := x.cuts) (by omega) ?_|refine idx_mid (l := x.cuts) (A := []) (x := c) (B := R) hp (by omega) ?_|refine need_nil (of_decide_eq_true rfl) (one_cells rfl) (show (1 : Nat) <= 1000000000 from by decide) ?_|refine zg ?_|refine zi ?_|refine za ?_|refine zv ?_|refine zz (fun _=>?_) fun _=>?_)
      all_goals conv=>whnf
      refine ⟨([c], R), ?_, hp, by simp⟩
      show Le T _ (ownS1 x [c] 1)
      exact zj
    | cons d D =>
      have h00 : (d :: D).length = D.length + 1 := rfl
      repeat' ((conv=>whnf);first|(exfalso; omega)|refine need_len (l := x.cuts) (by omega) ?_|refine idx_mid (l := x.cuts) (A := d :: D) (x := c) (B := R) hp (by omega) ?_|refine need_app1 (l := d :: D) rfl rfl (.inl rfl) rfl (of_decide_eq_true rfl) rfl (by omega) ?_|refine zg ?_|refine zi ?_|refine za ?_|refine zv ?_|refine zz (fun _=>?_) fun _=>?_)
      all_goals conv=>whnf
      refine ⟨(d :: (D ++ [c]), R), ?_, by rw [hp]; simp, by simp⟩
      have e1 : (d :: (D ++ [c])).map madeV = (d :: D).map madeV ++ [madeV c] := by simp
      have e2 : (D ++ [c]).length = D.length + 1 := by simp
      show Le T _ (mkSt [(1, .box 1 0), (2, .box 2 0), (3, .box 3 0), (4, I ((d :: (D ++ [c])).length : Nat))] [(1, eventC x), (2, zEvent), (3, ownC x (.arr 34 (D ++ [c]).length) nilV)] [(34, ⟨(D ++ [c]).length, .own, 82, (d :: (D ++ [c])).map madeV⟩)])
      rw [e1, e2]
      have e3 : ((d :: (D ++ [c])).length : Int) = ((d :: D).length : Int) + 1 := by simp
      rw [e3]
      exact zj
  | nil =>
    have hlen : x.cuts.length = D.length := by rw [hp]; simp
    have e : x.cuts = D := by rw [hp]; simp
    cases D with
    | nil =>
    · have hcc : (([] : List Made)).length <= 1000000 := by rw [<- e]; exact hc
      repeat' ((conv=>whnf);first|(exfalso; omega)|refine zg ?_|refine zz (fun _=>?_) fun _=>?_)
      refine loop_2 (A := List Rest) (B := List Rest) (fun D R => ownS2 x [] D D.length) (fun D R => x.rests = D ++ R) (fun D R => R.length) [] x.rests ?_ rfl (fun E R hp => ?_)
      · show Le T _ (ownS2 x [] [] 0)
        exact zj
      cases R with
      | cons r R =>
        have hlen2 := mid_len hp
        cases E with
        | nil =>
          have h00 : ([] : List Rest).length = 0 := rfl
          repeat' ((conv=>whnf);first|(exfalso; omega)|refine need_len (l := x.rests) (by omega) ?_|refine idx_mid (l := x.rests) (A := []) (x := r) (B := R) hp (by omega) ?_|refine need_nil (of_decide_eq_true rfl) (one_cells rfl) (show (1 : Nat) <= 1000000000 from by decide) ?_|refine zg ?_|refine zi ?_|refine za ?_|refine zv ?_|refine zz (fun _=>?_) fun _=>?_)
          all_goals conv=>whnf
          refine ⟨([r], R), ?_, hp, by simp⟩
          show Le T _ (ownS2 x [] [r] 1)
          exact zj
        | cons d E =>
          have h00 : (d :: E).length = E.length + 1 := rfl
          repeat' ((conv=>whnf);first|(exfalso; omega)|refine need_len (l := x.rests) (by omega) ?_|refine idx_mid (l := x.rests) (A := d :: E) (x := r) (B := R) hp (by omega) ?_|refine need_app1 (l := d :: E) rfl rfl (.inl rfl) rfl (of_decide_eq_true rfl) rfl (by omega) ?_|refine zg ?_|refine zi ?_|refine za ?_|refine zv ?_|refine zz (fun _=>?_) fun _=>?_)
          all_goals conv=>whnf
          refine ⟨(d :: (E ++ [r]), R), ?_, by rw [hp]; simp, by simp⟩
          have e1 : (d :: (E ++ [r])).map restV = (d :: E).map restV ++ [restV r] := by simp
          have e2 : (E ++ [r]).length = E.length + 1 := by simp
          have e3 : ((d :: (E ++ [r])).length : Int) = ((d :: E).length : Int) + 1 := by simp
          show Le T _ (mkSt [(1, .box 1 0), (2, .box 2 0), (3, .box 3 0), (5, I ((d :: (E ++ [r])).length : Nat))] [(1, eventC x), (2, zEvent), (3, ownC x nilV (.arr 51 (E ++ [r]).length))] ( (51, ⟨(E ++ [r]).length, .own, 80, (d :: (E ++ [r])).map restV⟩) :: []))
          rw [e1, e2, e3]
          exact zj
      | nil =>
        have hlen2 : x.rests.length = E.length := by rw [hp]; simp
        have e4 : x.rests = E := by rw [hp]; simp
        have ev : eventV x = .agg (ownC x (.sl (([] : List Made).map madeV)) (.sl (E.map restV))) := by rw [<- e, <- e4]; rfl
        rw [ev]
        cases E with
        | nil =>
          have h00 : ([] : List Rest).length = 0 := rfl
          repeat' ((conv=>whnf);first|(exfalso; omega)|refine zg ?_|refine zz (fun _=>?_) fun _=>?_|refine zr ?_)
          all_goals conv=>whnf
          all_goals first|exact ret_int rfl|exact ret_bool rfl|exact ret_lit rfl|exact zt|exact zu
        | cons d E =>
          have h00 : (d :: E).length = E.length + 1 := rfl
          repeat' ((conv=>whnf);first|(exfalso; omega)|refine zg ?_|refine zz (fun _=>?_) fun _=>?_|refine zr ?_)
          all_goals conv=>whnf
          all_goals first|exact ret_int rfl|exact ret_bool rfl|exact ret_lit rfl|exact zt|exact zu
    | cons c C =>
    · have hcc : (((c :: C) : List Made)).length <= 1000000 := by rw [<- e]; exact hc
      repeat' ((conv=>whnf);first|(exfalso; omega)|refine zg ?_|refine zz (fun _=>?_) fun _=>?_)
      refine loop_2 (A := List Rest) (B := List Rest) (fun D R => ownS2 x (c :: C) D D.length) (fun D R => x.rests = D ++ R) (fun D R => R.length) [] x.rests ?_ rfl (fun E R hp => ?_)
      · show Le T _ (ownS2 x (c :: C) [] 0)
        exact zj
      cases R with
      | cons r R =>
        have hlen2 := mid_len hp
        cases E with
        | nil =>
          have h00 : ([] : List Rest).length = 0 := rfl
          repeat' ((conv=>whnf);first|(exfalso; omega)|refine need_len (l := x.rests) (by omega) ?_|refine idx_mid (l := x.rests) (A := []) (x := r) (B := R) hp (by omega) ?_|refine need_nil (of_decide_eq_true rfl) (one_cells rfl) (show (1 : Nat) <= 1000000000 from by decide) ?_|refine zg ?_|refine zi ?_|refine za ?_|refine zv ?_|refine zz (fun _=>?_) fun _=>?_)
          all_goals conv=>whnf
          refine ⟨([r], R), ?_, hp, by simp⟩
          show Le T _ (ownS2 x (c :: C) [r] 1)
          exact zj
        | cons d E =>
          have h00 : (d :: E).length = E.length + 1 := rfl
          repeat' ((conv=>whnf);first|(exfalso; omega)|refine need_len (l := x.rests) (by omega) ?_|refine idx_mid (l := x.rests) (A := d :: E) (x := r) (B := R) hp (by omega) ?_|refine need_app1 (l := d :: E) rfl rfl (.inl rfl) rfl (of_decide_eq_true rfl) rfl (by omega) ?_|refine zg ?_|refine zi ?_|refine za ?_|refine zv ?_|refine zz (fun _=>?_) fun _=>?_)
          all_goals conv=>whnf
          refine ⟨(d :: (E ++ [r]), R), ?_, by rw [hp]; simp, by simp⟩
          have e1 : (d :: (E ++ [r])).map restV = (d :: E).map restV ++ [restV r] := by simp
          have e2 : (E ++ [r]).length = E.length + 1 := by simp
          have e3 : ((d :: (E ++ [r])).length : Int) = ((d :: E).length : Int) + 1 := by simp
          show Le T _ (mkSt [(1, .box 1 0), (2, .box 2 0), (3, .box 3 0), (5, I ((d :: (E ++ [r])).length : Nat))] [(1, eventC x), (2, zEvent), (3, ownC x (.arr 34 C.length) (.arr 51 (E ++ [r]).length))] ((34, ⟨C.length, .own, 82, (c :: C).map madeV⟩) :: (51, ⟨(E ++ [r]).length, .own, 80, (d :: (E ++ [r])).map restV⟩) :: []))
          rw [e1, e2, e3]
          exact zj
      | nil =>
        have hlen2 : x.rests.length = E.length := by rw [hp]; simp
        have e4 : x.rests = E := by rw [hp]; simp
        have ev : eventV x = .agg (ownC x (.sl (((c :: C) : List Made).map madeV)) (.sl (E.map restV))) := by rw [<- e, <- e4]; rfl
        rw [ev]
        cases E with
        | nil =>
          have h00 : ([] : List Rest).length = 0 := rfl
          repeat' ((conv=>whnf);first|(exfalso; omega)|refine zg ?_|refine zz (fun _=>?_) fun _=>?_|refine zr ?_)
          all_goals conv=>whnf
          all_goals first|exact ret_int rfl|exact ret_bool rfl|exact ret_lit rfl|exact zt|exact zu
        | cons d E =>
          have h00 : (d :: E).length = E.length + 1 := rfl
          repeat' ((conv=>whnf);first|(exfalso; omega)|refine zg ?_|refine zz (fun _=>?_) fun _=>?_|refine zr ?_)
          all_goals conv=>whnf
          all_goals first|exact ret_int rfl|exact ret_bool rfl|exact ret_lit rfl|exact zt|exact zu
end Go.Proofs.Led
