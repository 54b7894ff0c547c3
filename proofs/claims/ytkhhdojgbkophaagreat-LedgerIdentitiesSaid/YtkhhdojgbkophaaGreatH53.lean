/-
  The inventory: what is found by its identity.
-/
import Derived.Test.YtkhhdojgbkophaaGreatH40
import Derived.Test.YtkhhdojgbkophaaGreatH51
set_option linter.unusedVariables false
set_option linter.unusedSimpArgs false
namespace Go.Proofs.Led
open Go Go.Proofs Go.Ab
set_option maxRecDepth 100000
set_option maxHeartbeats 4000000
end Go.Proofs.Led
namespace Go.Proofs.Led
open Go Go.Proofs Go.Ab
set_option maxRecDepth 100000
set_option maxHeartbeats 8000000
theorem findPF2_spec (n : Int) (x : Piece) : Sp 86 [pieceV x, .fp [I n]] (DB (x.id = n)) := by
  refine zsp Tryz.func86 ?_
  repeat' ((conv=>whnf);first|refine zg ?_|refine zr ?_)
  all_goals conv=>whnf
  all_goals exact ret_boolD (eq_dec Iff.rfl)
theorem fpI_vc {g : FuncId} {c : List V} {Q : Piece -> Prop} (hg : ∀ m, Sp g (pieceV m :: [.fp c]) (DB (Q m))) (l : List Piece) (hl : l.length <= 1000000) : fnVC T Tryz.prog Tryz.f85 [.sl (l.map pieceV), .fn g [.fp c]] (I (fstI Q l)) := by
  have hll : (l.map pieceV).length = l.length := by simp
  repeat' ((conv=>whnf);first|refine zg ?_)
  refine loop_2 (A := List Piece) (B := List Piece) (fun D R => mkSt [(0, .sl (l.map pieceV)), (1, .fn g [.fp c]), (7, I l.length), (8, I D.length)] [] [])
    (fun D R => l = D ++ R /\ ∀ m ∈ D, ¬ Q m) (fun D R => R.length) [] l ?_ ⟨rfl, by simp⟩ (fun D R hp => ?_)
  · exact zj
  · obtain ⟨h1, h2⟩ := hp
    have hlen : l.length = D.length + R.length := by rw [h1]; simp
    have hD : ∀ y ∈ D, (!decB (Q y)) = true := fun y hy => by rw [decB_f.2 (h2 y hy)]; rfl
    cases R with
    | nil =>
      have e : l = D := by rw [h1]; simp
      simp at hlen
      repeat' ((conv=>whnf);first|(exfalso; omega)|refine zg ?_|refine zl (fun hlt=>?_) (fun hlt=>?_)|refine zr ?_)
      conv => whnf
      refine ret_int ?_
      unfold fstI
      rw [if_neg (fst_none.2 (by rw [e]; exact h2))]
    | cons x R =>
      rw [List.length_cons] at hlen
      repeat' ((conv=>whnf);first|(exfalso; omega)|refine idx_mid (l := l) (A := D) (x := x) (B := R) h1 (by omega) ?_|refine zc (hg x) ?_|refine zg ?_|refine za ?_|refine zo ?_|refine zd (fun hd=>?_) (fun hd=>?_)|refine zl (fun hlt=>?_) (fun hlt=>?_)|refine zr ?_)
      · conv => whnf
        refine ret_int ?_
        have e : fst Q l = D.length := by unfold fst; rw [h1]; exact tw_stop hD (by rw [decB_t.2 hd]; rfl)
        unfold fstI
        rw [e, if_pos (by omega)]
      · conv => whnf
        refine ⟨(D ++ [x], R), ?_, ⟨?_, ?_⟩, ?_⟩
        · refine le_mk ?_ ?_ ?_ ?_
          all_goals repeat' (first | exact trivial | refine And.intro ?_ ?_ | with_reducible rfl | exact (fun h => by cases h) | exact Nat.le_refl _ | omega | exact rfl)
          · show (D.length : Int) + 1 = (D ++ [x]).length
            simp
        · show l = D ++ [x] ++ R
          rw [h1]; simp
        · intro m hm
          rcases List.mem_append.1 hm with hm | hm
          · exact h2 m hm
          · rw [List.mem_singleton.1 hm]; exact hd
        · show R.length < (x :: R).length
          simp
theorem fpI_spec {g : FuncId} {c : List V} {Q : Piece -> Prop} (hg : ∀ m, Sp g (pieceV m :: [.fp c]) (DB (Q m))) (l : List Piece) (hl : l.length <= 1000000) : Sp 85 [.sl (l.map pieceV), .fn g [.fp c]] (I (fstI Q l)) := zsp Tryz.func85 (fpI_vc hg l hl)
def piece0 : Piece := ⟨0, 0, emptyB, emptyB, emptyB, 0, false, 0, emptyB⟩
noncomputable def findS (s : Inv56) (n : Int) : Stock := (s.stocks[fst (fun x => sid x = n) s.stocks]?).getD stock0
noncomputable def findQ (s : Inv56) (n : Int) : Piece := (s.pieces[fst (fun x => x.id = n) s.pieces]?).getD piece0
theorem fst_lt {α : Type} {Q : α -> Prop} {l : List α} : fst Q l < l.length ↔ ∃ m ∈ l, Q m := by
  by_cases h : fst Q l < l.length
  · refine ⟨fun _ => ?_, fun _ => h⟩
    apply Classical.byContradiction
    intro hn
    exact fst_none.2 (fun m hm hq => hn ⟨m, hm, hq⟩) h
  · refine ⟨fun q => absurd q h, fun ⟨m, hm, hq⟩ => absurd hq (fst_none.1 h m hm)⟩
theorem FindP_spec (s : Inv56) (n : Int) (hl : s.pieces.length <= 1000000) : Sp 30 [invV s, I n] (.tup [pieceV (findQ s n), DB (∃ m ∈ s.pieces, m.id = n)]) := by
  refine zsp Tryz.func30 ?_
  have h1 := fpI_spec (c := [I n]) (fun x => findPF2_spec n x) s.pieces hl
  have hs : findQ s n = (s.pieces[fst (fun x => x.id = n) s.pieces]?).getD piece0 := rfl
  have hlt := fst_lt (Q := fun x : Piece => x.id = n) (l := s.pieces)
  have hi : fstI (fun x : Piece => x.id = n) s.pieces = if fst (fun x => x.id = n) s.pieces < s.pieces.length then (fst (fun x => x.id = n) s.pieces : Int) else -1 := rfl
  generalize fstI (fun x : Piece => x.id = n) s.pieces = z at *
  generalize fst (fun x : Piece => x.id = n) s.pieces = k at *
  generalize (∃ m ∈ s.pieces, m.id = n) = P at *
  have hm : (s.pieces.map pieceV).length = s.pieces.length := by simp
  conv => whnf
  refine seq_cut Unit (fun _ => mkSt [(2, .box 2 0), (3, .fp [I n]), (4, .box 4 0), (5, B false)] [(2, invC s), (4, pieceC piece0)] []) (fun _ => True) ?_ ?_
  · repeat' ((conv=>whnf);first|refine zg ?_|refine zi ?_|refine za ?_|refine zw ?_|refine zy ?_|refine zo ?_|refine zn ?_|refine zd (fun hd=>?_) (fun hd=>?_)|refine zl (fun hlt=>?_) (fun hlt=>?_)|refine zk (fun hle=>?_) (fun hle=>?_)|refine ze (fun heq=>?_) (fun heq=>?_)|refine zm (fun x hx=>?_)|refine zv ?_|refine zb (fun hbb=>?_) (fun hbb=>?_)|refine zr ?_|refine zq ?_)
    refine ⟨(), ?_, trivial⟩
    refine Le.trans (le_frzb (i := 3) (cs := [I n]) rfl (by decide) ⟨trivial, trivial⟩) ?_
    exact zj
  intro _ _
  by_cases c : k < s.pieces.length
  · rw [if_pos c] at hi
    have hP : P := hlt.1 c
    have hg : s.pieces[k]? = some (findQ s n) := by rw [hs, List.getElem?_eq_getElem c]; rfl
    rw [hi] at h1
    repeat' ((conv=>whnf);first|(exfalso; omega)|refine zc h1 ?_|refine need_len (l := s.pieces) (by omega) ?_|refine idx_at (l := s.pieces) hg (by omega) ?_|refine zg ?_|refine zl (fun hlt=>?_) (fun hlt=>?_)|refine zr ?_)
    all_goals conv=>whnf
    refine ⟨_, rfl, ⟨?_, congrArg (fun b => Value.bool b) (dec_ret hP), trivial⟩, rfl⟩
    (repeat' (first | exact trivial | refine And.intro ?_ ?_ | with_reducible rfl | exact (fun h => by cases h) | exact rfl)); done
  · rw [if_neg c] at hi
    have hP : ¬ P := fun h => c (hlt.2 h)
    have hg : findQ s n = piece0 := by rw [hs, List.getElem?_eq_none (by omega)]; rfl
    rw [hi] at h1
    rw [hg]
    repeat' ((conv=>whnf);first|(exfalso; omega)|refine zc h1 ?_|refine zg ?_|refine zl (fun hlt=>?_) (fun hlt=>?_)|refine zr ?_)
    all_goals conv=>whnf
    refine ⟨_, rfl, ⟨?_, congrArg (fun b => Value.bool b) (dec_retf hP), trivial⟩, rfl⟩
    (repeat' (first | exact trivial | refine And.intro ?_ ?_ | with_reducible rfl | exact (fun h => by cases h) | exact rfl)); done
theorem refID_spec (x : Stock) : Sp 29 [stockV x] (I (sid x)) := by
  refine zsp Tryz.func29 ?_
  obtain ⟨b, sh, br, p⟩ := x
  cases b
  · repeat' ((conv=>whnf);first|refine zg ?_|refine zr ?_)
    all_goals conv=>whnf
    all_goals first|exact ret_int rfl|exact ret_bool rfl|exact ret_lit rfl|exact zt|exact zu
  · repeat' ((conv=>whnf);first|refine zg ?_|refine zr ?_)
    all_goals conv=>whnf
    all_goals first|exact ret_int rfl|exact ret_bool rfl|exact ret_lit rfl|exact zt|exact zu
theorem has_true {l : List Int} {n : Int} (hl : l.length <= 1000000) (h : n ∈ l) : Sp 28 [.sl (l.map I), I n] (.lit (.bool true)) := by
  have g := has_spec l n hl
  rw [DB_t h] at g
  exact g
theorem findP_none {s : Inv56} {n : Int} (hl : s.pieces.length <= 1000000) (h : ∀ p ∈ s.pieces, n ≠ p.id) : Sp 30 [invV s, I n] (.tup [pieceV (findQ s n), .lit (.bool false)]) := by
  have g := FindP_spec s n hl
  rw [DB_f (fun ⟨m, hm, e⟩ => h m hm e.symm)] at g
  exact g
theorem pre_sorted {α : Type} {key : α -> Int} {l A B : List α} {x y : α} (hs : (l.map key).Pairwise (· < ·)) (h : l = (A ++ [y]) ++ x :: B) : key y < key x := by
  subst h
  rw [List.map_append, List.pairwise_append] at hs
  exact hs.2.2 _ (by simp) _ (by simp)
theorem pre_get {α : Type} {l A B : List α} {y : α} (h : l = (A ++ [y]) ++ B) : l[A.length]? = some y := by
  subst h
  rw [List.append_assoc, List.getElem?_append_right (Nat.le_refl _), Nat.sub_self]
  rfl
theorem two_sorted {l : List Int} (hs : (l.map id).Pairwise (· < ·)) {i : Nat} (h1 : 1 <= i) (hi : i < l.length) : ∃ x y, l[i]? = some x /\ l[i - 1]? = some y /\ y < x := by
  rw [List.map_id] at hs
  refine ⟨l[i], l[i - 1], List.getElem?_eq_getElem hi, List.getElem?_eq_getElem (by omega), ?_⟩
  exact List.pairwise_iff_getElem.1 hs (i - 1) i (by omega) hi (by omega)
theorem lawIds_spec (l : List Event) (hl : Len6 l) (hb : ∀ e ∈ l, EvBig e) : Sp 7 [.sl (l.map eventV)] (.lit (.bool true)) := by
  refine zsp Tryz.func7 ?_
  have hm : (l.map eventV).length = l.length := by simp
  have g0 := awake_spec
  have g1 := fewL_spec l 16 hl hb
  by_cases hf : fewL l 16
  rotate_left
  · repeat' ((conv=>whnf);first|(exfalso; contradiction)|refine zc g0 ?_|refine zc g1 ?_|refine zg ?_|refine zn ?_|refine zd (fun hd=>?_) (fun hd=>?_)|refine zr ?_)
    all_goals conv=>whnf
    all_goals first|exact ret_int rfl|exact ret_bool rfl|exact ret_lit rfl|exact zt|exact zu
  obtain ⟨hf1, hf2⟩ := hf
  have hfs : ∀ e ∈ l, EvSized e /\ e.cuts.length <= 12 /\ e.rests.length <= 8 /\ more e <= 21 := fun e he => few_sized (hb e he) (hf1 e he)
  have hml := moreL_le (fun e he => (hfs e he).2.2.2)
  have hf' : fewL l 16 := ⟨hf1, hf2⟩
  repeat' ((conv=>whnf);first|(exfalso; contradiction)|refine zc g0 ?_|refine zc g1 ?_|refine zg ?_|refine zn ?_|refine zd (fun hd=>?_) (fun hd=>?_))
  all_goals conv=>whnf
  refine loop_3 (A := Inv56) (B := List Event) (C := List Event) (fun s D R => mkSt [(0, .sl (l.map eventV)), (3, .box 3 0), (4, I D.length)] [(3, invC s)] []) (fun s D R => l = D ++ R /\ ∃ n, Good s n /\ n + moreL R <= 1000) (fun s D R => R.length) inv0 [] l ?_ ⟨rfl, 0, good0, by omega⟩ (fun s D R hp => ?_)
  · show Le T _ (mkSt [(0, .sl (l.map eventV)), (3, .box 3 0), (4, I 0)] [(3, invC inv0)] [])
    exact zj
  obtain ⟨hp, n, hn, hnl⟩ := hp
  have hn6 : n <= 1000000 := by omega
  cases R with
  | nil =>
    have hlen : l.length = D.length := by rw [hp]; simp
    clear hp
    have hlu := Nat.le_trans hn.ok.lu hn6
    have hum : (s.used.map I).length = s.used.length := by simp
    repeat' ((conv=>whnf);first|(exfalso; omega)|refine zg ?_|refine zl (fun hlt=>?_) (fun hlt=>?_))
    refine loop_2 (A := List Int) (B := List Int) (fun E S => mkSt [(0, .sl (l.map eventV)), (3, .box 3 0), (14, I E.length)] [(3, invC s)] []) (fun E S => s.used = E ++ S) (fun E S => S.length) [] s.used ?_ rfl (fun E S hq => ?_)
    · exact zj
    cases S with
    | nil =>
      have hlen2 : s.used.length = E.length := by rw [hq]; simp
      clear hq
      repeat' ((conv=>whnf);first|(exfalso; omega)|refine zg ?_|refine zl (fun hlt=>?_) (fun hlt=>?_)|refine zr ?_)
      all_goals conv=>whnf
      all_goals first|exact ret_int rfl|exact ret_bool rfl|exact ret_lit rfl|exact zt|exact zu
    | cons y S =>
      have hlen2 := mid_len hq
      have hyu : y ∈ s.used := by rw [hq]; simp
      have k1 := (apply_spec hn.ok (e := recvEv ⟨y, chB 115, chB 104, 1, []⟩) (by show n + 1 <= 1000000; omega) ⟨⟨⟨Nat.zero_le _, Nat.zero_le _, fun h hh => by cases hh⟩, Nat.zero_le _, fun h hh => by cases hh⟩, Nat.zero_le _, Nat.zero_le _, Nat.zero_le _⟩).1
      rw [used_again hn.ids hyu] at k1
      repeat' ((conv=>whnf);first|(exfalso; omega)|refine need_len (l := s.used) (by omega) ?_|refine idx_mid (l := s.used) (A := E) (x := y) (B := S) hq (by omega) ?_|refine zc k1 ?_|refine zg ?_|refine zi ?_|refine za ?_|refine zn ?_|refine zl (fun hlt=>?_) (fun hlt=>?_)|refine ze (fun heq=>?_) (fun heq=>?_)|refine zr ?_)
      all_goals conv=>whnf
      all_goals first
        | exact ret_bool rfl
        | skip
      refine ⟨(E ++ [y], S), ?_, by rw [hq]; simp, by simp⟩
      simp only [List.length_append, List.length_singleton]
      exact zj
  | cons e R =>
    have hlen := mid_len hp
    have em : moreL (e :: R) = more e + moreL R := by unfold moreL; simp
    obtain ⟨z1, z2, z3, z4⟩ := hfs e (by rw [hp]; simp)
    have k1 := own_spec e (by omega) (by omega)
    have k2 := (apply_spec hn.ok (e := e) (by omega) z1).1
    have k3 := good_step (e := e) hn
    have hlD : ((D ++ [e]).length : Int) = (D.length : Int) + 1 := by simp
    have kk : ∀ s', Good s' (n + more e) -> ∃ n', Good s' n' /\ n' + moreL R <= 1000 := fun s' h => ⟨_, h, by omega⟩
    have kk0 : ∃ n', Good s n' /\ n' + moreL R <= 1000 := ⟨n, hn, by omega⟩
    by_cases c : (appR s e).2 = 0
    rotate_left
    · clear k3
      generalize appR s e = a at *
      repeat' ((conv=>whnf);first|(exfalso; omega)|refine need_len (l := l) (by omega) ?_|refine idx_mid (l := l) (A := D) (x := e) (B := R) hp (by omega) ?_|refine zc k1 ?_|refine zc k2 ?_|refine zg ?_|refine zi ?_|refine za ?_|refine zn ?_|refine zl (fun hlt=>?_) (fun hlt=>?_)|refine ze (fun heq=>?_) (fun heq=>?_))
      all_goals conv=>whnf
      refine ⟨(s, D ++ [e], R), ?_, ⟨by rw [hp]; simp, kk0⟩, by simp⟩
      simp only [List.length_append, List.length_singleton]
      exact zj
    have hG := k3 c
    have hU := (ids_step hn.ok hn.ids (step_of hn.ok c).2).2
    rw [c] at k2
    clear k3 c
    generalize (appR s e).1 = t at *
    have hlu := Nat.le_trans hn.ok.lu hn6
    have hlu' := Nat.le_trans hG.ok.lu (show n + more e <= 1000000 by omega)
    have hls' := Nat.le_trans hG.ok.ls (show n + more e <= 1000000 by omega)
    have hlp' := Nat.le_trans hG.ok.lp (show n + more e <= 1000000 by omega)
    have hum : (s.used.map I).length = s.used.length := by simp
    have hum' : (t.used.map I).length = t.used.length := by simp
    have hsm' : (t.stocks.map stockV).length = t.stocks.length := by simp
    have hpm' : (t.pieces.map pieceV).length = t.pieces.length := by simp
    repeat' ((conv=>whnf);first|(exfalso; omega)|refine need_len (l := l) (by omega) ?_|refine idx_mid (l := l) (A := D) (x := e) (B := R) hp (by omega) ?_|refine zc k1 ?_|refine zc k2 ?_|refine zg ?_|refine zi ?_|refine zn ?_|refine zl (fun hlt=>?_) (fun hlt=>?_)|refine ze (fun heq=>?_) (fun heq=>?_))
    refine loop_2 (A := List Int) (B := List Int) (fun E S => mkSt [(0, .sl (l.map eventV)), (3, .box 3 0), (4, I D.length), (5, .box 5 0), (7, I E.length)] [(3, invC s), (5, invC t)] []) (fun E S => s.used = E ++ S) (fun E S => S.length) [] s.used ?_ rfl (fun E S hq => ?_)
    · exact zj
    cases S with
    | cons y S =>
      have hlen2 := mid_len hq
      have k4 := has_true hlu' (hU y (by rw [hq]; simp))
      repeat' ((conv=>whnf);first|(exfalso; omega)|refine need_len (l := s.used) (by omega) ?_|refine idx_mid (l := s.used) (A := E) (x := y) (B := S) hq (by omega) ?_|refine zc k4 ?_|refine zg ?_|refine zi ?_|refine za ?_|refine zl (fun hlt=>?_) (fun hlt=>?_))
      all_goals conv=>whnf
      refine ⟨(E ++ [y], S), ?_, by rw [hq]; simp, by simp⟩
      simp only [List.length_append, List.length_singleton]
      exact zj
    | nil =>
      have hlen2 : s.used.length = E.length := by rw [hq]; simp
      clear hq
      repeat' ((conv=>whnf);first|(exfalso; omega)|refine zg ?_|refine zl (fun hlt=>?_) (fun hlt=>?_))
      refine loop_2 (A := List Stock) (B := List Stock) (fun E S => mkSt [(0, .sl (l.map eventV)), (3, .box 3 0), (4, I D.length), (5, .box 5 0), (8, I E.length)] [(3, invC s), (5, invC t)] []) (fun E S => t.stocks = E ++ S) (fun E S => S.length) [] t.stocks ?_ rfl (fun E S hq => ?_)
      · exact zj
      cases S with
      | cons x S =>
        have hlen3 := mid_len hq
        have hx : x ∈ t.stocks := by rw [hq]; simp
        have k4 := has_true hlu' (hG.ok.us x hx)
        have k5 := findP_none (s := t) (n := sid x) hlp' (fun p hp' => hG.ids.dj x hx p hp')
        have k6 := refID_spec x
        rcases List.eq_nil_or_concat E with hE | ⟨E', y, hE⟩
        · subst hE
          have h00 : ([] : List Stock).length = 0 := rfl
          repeat' ((conv=>whnf);first|(exfalso; omega)|refine need_len (l := t.stocks) (by omega) ?_|refine idx_mid (l := t.stocks) (A := []) (x := x) (B := S) hq (by omega) ?_|refine zc k4 ?_|refine zc k5 ?_|refine zc k6 ?_|refine zg ?_|refine za ?_|refine zl (fun hlt=>?_) (fun hlt=>?_))
          all_goals conv=>whnf
          refine ⟨([x], S), ?_, hq, by simp⟩
          show Le T _ (mkSt [(0, .sl (l.map eventV)), (3, .box 3 0), (4, I D.length), (5, .box 5 0), (8, I 1)] [(3, invC s), (5, invC t)] [])
          exact zj
        · subst hE
          rw [List.concat_eq_append] at *
          have h00 : (E' ++ [y]).length = E'.length + 1 := by simp
          have hlt := pre_sorted (key := sid) hG.ok.ss hq
          have hpg := pre_get hq
          have k7 := refID_spec y
          repeat' ((conv=>whnf);first|(exfalso; omega)|refine need_len (l := t.stocks) (by omega) ?_|refine idx_mid (l := t.stocks) (A := E' ++ [y]) (x := x) (B := S) hq (by omega) ?_|refine idx_at (l := t.stocks) hpg (by omega) ?_|refine zc k4 ?_|refine zc k5 ?_|refine zc k6 ?_|refine zc k7 ?_|refine zg ?_|refine za ?_|refine zl (fun hlt=>?_) (fun hlt=>?_)|refine zk (fun hle=>?_) (fun hle=>?_))
          all_goals conv=>whnf
          refine ⟨(E' ++ [y] ++ [x], S), ?_, by rw [hq]; simp, by simp⟩
          have e2 : ((E' ++ [y] ++ [x]).length : Int) = ((E' ++ [y]).length : Int) + 1 := by simp; omega
          simp only [e2]
          exact zj
      | nil =>
        have hlen3 : t.stocks.length = E.length := by rw [hq]; simp
        clear hq
        repeat' ((conv=>whnf);first|(exfalso; omega)|refine zg ?_|refine zl (fun hlt=>?_) (fun hlt=>?_))
        refine loop_2 (A := List Piece) (B := List Piece) (fun E S => mkSt [(0, .sl (l.map eventV)), (3, .box 3 0), (4, I D.length), (5, .box 5 0), (12, I E.length)] [(3, invC s), (5, invC t)] []) (fun E S => t.pieces = E ++ S) (fun E S => S.length) [] t.pieces ?_ rfl (fun E S hq => ?_)
        · exact zj
        cases S with
        | cons x S =>
          have hlen4 := mid_len hq
          have hx : x ∈ t.pieces := by rw [hq]; simp
          have k4 := has_true hlu' (hG.ok.up x hx)
          have k5 := has_true hlu' (hG.ids.par x hx)
          rcases List.eq_nil_or_concat E with hE | ⟨E', y, hE⟩
          · subst hE
            have h00 : ([] : List Piece).length = 0 := rfl
            repeat' ((conv=>whnf);first|(exfalso; omega)|refine need_len (l := t.pieces) (by omega) ?_|refine idx_mid (l := t.pieces) (A := []) (x := x) (B := S) hq (by omega) ?_|refine zc k4 ?_|refine zc k5 ?_|refine zg ?_|refine zi ?_|refine za ?_|refine zl (fun hlt=>?_) (fun hlt=>?_))
            all_goals conv=>whnf
            refine ⟨([x], S), ?_, hq, by simp⟩
            show Le T _ (mkSt [(0, .sl (l.map eventV)), (3, .box 3 0), (4, I D.length), (5, .box 5 0), (12, I 1)] [(3, invC s), (5, invC t)] [])
            exact zj
          · subst hE
            rw [List.concat_eq_append] at *
            have h00 : (E' ++ [y]).length = E'.length + 1 := by simp
            have hlt := pre_sorted (key := Piece.id) hG.ok.sp hq
            have hpg := pre_get hq
            repeat' ((conv=>whnf);first|(exfalso; omega)|refine need_len (l := t.pieces) (by omega) ?_|refine idx_mid (l := t.pieces) (A := E' ++ [y]) (x := x) (B := S) hq (by omega) ?_|refine idx_at (l := t.pieces) hpg (by omega) ?_|refine zc k4 ?_|refine zc k5 ?_|refine zg ?_|refine zi ?_|refine za ?_|refine zl (fun hlt=>?_) (fun hlt=>?_)|refine zk (fun hle=>?_) (fun hle=>?_))
            all_goals conv=>whnf
            refine ⟨(E' ++ [y] ++ [x], S), ?_, by rw [hq]; simp, by simp⟩
            have e2 : ((E' ++ [y] ++ [x]).length : Int) = ((E' ++ [y]).length : Int) + 1 := by simp; omega
            simp only [e2]
            exact zj
        | nil =>
          have hlen4 : t.pieces.length = E.length := by rw [hq]; simp
          clear hq
          repeat' ((conv=>whnf);first|(exfalso; omega)|refine zg ?_|refine zl (fun hlt=>?_) (fun hlt=>?_))
          refine loop_i (A := Nat) (fun i => mkSt [(0, .sl (l.map eventV)), (3, .box 3 0), (4, I D.length), (5, .box 5 0), (13, I i)] [(3, invC s), (5, invC t)] []) (fun i => 1 <= i) (fun i => t.used.length - i) 1 ?_ (Nat.le_refl 1) (fun i hi => ?_)
          · show Le T _ (mkSt [(0, .sl (l.map eventV)), (3, .box 3 0), (4, I D.length), (5, .box 5 0), (13, I 1)] [(3, invC s), (5, invC t)] [])
            exact zj
          by_cases hil : i < t.used.length
          · obtain ⟨x, y, hx, hy, hxy⟩ := two_sorted hG.ok.su hi hil
            repeat' ((conv=>whnf);first|(exfalso; omega)|refine need_len (l := t.used) (by omega) ?_|refine idx_at (l := t.used) hx (by omega) ?_|refine idx_at (l := t.used) hy (by omega) ?_|refine zg ?_|refine zi ?_|refine za ?_|refine zl (fun hlt=>?_) (fun hlt=>?_)|refine zk (fun hle=>?_) (fun hle=>?_))
            all_goals conv=>whnf
            refine ⟨i + 1, ?_, by omega, by omega⟩
            show Le T _ (mkSt [(0, .sl (l.map eventV)), (3, .box 3 0), (4, I D.length), (5, .box 5 0), (13, I ((i : Int) + 1))] [(3, invC s), (5, invC t)] [])
            exact zj
          · repeat' ((conv=>whnf);first|(exfalso; omega)|refine zg ?_|refine za ?_|refine zl (fun hlt=>?_) (fun hlt=>?_))
            all_goals conv=>whnf
            refine ⟨(t, D ++ [e], R), ?_, ⟨by rw [hp]; simp, kk _ hG⟩, by simp⟩
            simp only [List.length_append, List.length_singleton]
            exact zj
end Go.Proofs.Led
