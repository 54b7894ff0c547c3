/-
  The inventory as a variable: stocks that are received.
-/
import Derived.Test.YtkhhdojgbkophaaGreatH34
set_option linter.unusedVariables false
set_option linter.unusedSimpArgs false
namespace Go.Proofs.Led
open Go Go.Proofs Go.Ab
set_option maxRecDepth 100000
set_option maxHeartbeats 4000000
def plus (b : Bool) (r : Iv) (n : Int) : Iv := if b then (r.1, W (r.2 + n)) else (W (r.1 + n), r.2)
noncomputable def recvS (s : Inv56) (x : Stock) : Inv56 := { stocks := putS s.stocks x, pieces := s.pieces, used := putN s.used (sid x), received := plus x.isBar s.received (sizeK x), scrap := s.scrap }
theorem gd_used {s : Inv56} {n : Int} (hs : Gd s) (hl : s.used.length + 1 <= 1000000) (hn : n ∉ s.used) : Gd { s with used := putN s.used n } :=
  ⟨hs.ls, hs.lp, by show (putN s.used n).length <= _; rw [show (putN s.used n).length = s.used.length + 1 from len_putAt]; exact hl, hs.ss, hs.sp, putN_sorted hs.su hn⟩
theorem receiveY_vc (s : Inv56) (x : Stock) (hs : Gd s) (hx : stockSized x) (hl : s.used.length + 1 <= 1000000) (hn : sid x ∉ s.used) :
    fnVCB T Tryz.prog Tryz.f134 [.box 100000 0, stockV x] [stC s] (I 0) [stC (recvS s x)] := by
  have h1 := sid_spec x
  have h2 := freshY_spec s [sid x] hs hl ⟨hn, trivial⟩
  have h3 := add_spec { s with used := putN s.used (sid x) } x (gd_used hs hl hn)
  have h4 := classI_spec x.isBar
  have h5 := sizeK_spec x hx
  change SpB _ _ _ _ [stC { s with used := putN s.used (sid x) }] at h2
  unfold recvS
  unfold addS at h3
  simp only at h3
  generalize putN s.used (sid x) = U at *
  generalize putS s.stocks x = L at *
  generalize sid x = n at *
  generalize sizeK x = z at *
  unfold plus
  obtain ⟨b, sh, br, p⟩ := x
  cases b
  · repeat' ((conv=>whnf);first|(exfalso; omega)|refine zc h1 ?_|refine zh (h2) [100000] ?_|refine zh (h3) [100000] ?_|refine zc h4 ?_|refine zc h5 ?_|refine zg ?_|refine zi ?_|refine zw ?_|refine zn ?_|refine zz (fun _=>?_) fun _=>?_|refine zq ?_)
    all_goals conv=>whnf
    all_goals first|exact ⟨_, rfl, zc1⟩|exact zc1
  · repeat' ((conv=>whnf);first|(exfalso; omega)|refine zc h1 ?_|refine zh (h2) [100000] ?_|refine zh (h3) [100000] ?_|refine zc h4 ?_|refine zc h5 ?_|refine zg ?_|refine zi ?_|refine zw ?_|refine zn ?_|refine zz (fun _=>?_) fun _=>?_|refine zq ?_)
    all_goals conv=>whnf
    all_goals first|exact ⟨_, rfl, zc1⟩|exact zc1
theorem receiveY_spec (s : Inv56) (x : Stock) (hs : Gd s) (hx : stockSized x) (hl : s.used.length + 1 <= 1000000) (hn : sid x ∉ s.used) :
    SpB 134 [.box 100000 0, stockV x] [stC s] (I 0) [stC (recvS s x)] :=
  b_of Tryz.func134 (by kernel_rfl) (by kernel_rfl) rfl rfl (receiveY_vc s x hs hx hl hn)
theorem receiveN_vc (s : Inv56) (x : Stock) (hs : Gd s) (hl : s.used.length + 1 <= 1000000) (hn : sid x ∈ s.used) :
    fnVCB T Tryz.prog Tryz.f134 [.box 100000 0, stockV x] [stC s] (I 7) [bots] := by
  have h1 := sid_spec x
  have h2 := freshN_spec s [sid x] hs hl (fun h => h.1 hn)
  generalize sid x = n at *
  repeat' ((conv=>whnf);first|(exfalso; omega)|refine zc h1 ?_|refine zh (h2) [100000] ?_|refine zg ?_|refine zn ?_|refine zz (fun _=>?_) fun _=>?_|refine zq ?_)
  all_goals conv=>whnf
  all_goals first|exact ⟨_, rfl, zc1⟩|exact zc1
theorem receiveN_spec (s : Inv56) (x : Stock) (hs : Gd s) (hl : s.used.length + 1 <= 1000000) (hn : sid x ∈ s.used) :
    SpB 134 [.box 100000 0, stockV x] [stC s] (I 7) [bots] :=
  b_of Tryz.func134 (by kernel_rfl) (by kernel_rfl) rfl rfl (receiveN_vc s x hs hl hn)
theorem recvB_vc (s : Inv56) (e : Event) {r : Int} {bs' : List (List V)} (hl : bs' = [bots] \/ ∃ s', bs' = [stC s']) (h : SpB 134 [.box 100000 0, stockV (⟨true, sheet0, e.bar, emptyB⟩ : Stock)] [stC s] (I r) bs') :
    fnVCB T Tryz.prog Tryz.f57 [.box 100000 0, eventV e] [stC s] (I r) bs' := by
  rcases hl with rfl | ⟨s', rfl⟩
  · repeat' ((conv=>whnf);first|refine zh (h) [100000] ?_|refine zg ?_|refine zq ?_)
    all_goals conv=>whnf
    all_goals first|exact ⟨_, rfl, zc1⟩|exact zc1
  · repeat' ((conv=>whnf);first|refine zh (h) [100000] ?_|refine zg ?_|refine zq ?_)
    all_goals conv=>whnf
    all_goals first|exact ⟨_, rfl, zc1⟩|exact zc1
theorem recvB_spec (s : Inv56) (e : Event) {r : Int} {bs' : List (List V)} (hl : bs' = [bots] \/ ∃ s', bs' = [stC s']) (h : SpB 134 [.box 100000 0, stockV (⟨true, sheet0, e.bar, emptyB⟩ : Stock)] [stC s] (I r) bs') :
    SpB 57 [.box 100000 0, eventV e] [stC s] (I r) bs' :=
  b_of Tryz.func57 (by kernel_rfl) (by kernel_rfl) rfl (by rcases hl with rfl | ⟨s', rfl⟩ <;> rfl) (recvB_vc s e hl h)
theorem recvSh_vc (s : Inv56) (e : Event) {r : Int} {bs' : List (List V)} (hl : bs' = [bots] \/ ∃ s', bs' = [stC s']) (h : SpB 134 [.box 100000 0, stockV (⟨false, e.sheet, bar0, emptyB⟩ : Stock)] [stC s] (I r) bs') :
    fnVCB T Tryz.prog Tryz.f56 [.box 100000 0, eventV e] [stC s] (I r) bs' := by
  rcases hl with rfl | ⟨s', rfl⟩
  · repeat' ((conv=>whnf);first|refine zh (h) [100000] ?_|refine zg ?_|refine zq ?_)
    all_goals conv=>whnf
    all_goals first|exact ⟨_, rfl, zc1⟩|exact zc1
  · repeat' ((conv=>whnf);first|refine zh (h) [100000] ?_|refine zg ?_|refine zq ?_)
    all_goals conv=>whnf
    all_goals first|exact ⟨_, rfl, zc1⟩|exact zc1
theorem recvSh_spec (s : Inv56) (e : Event) {r : Int} {bs' : List (List V)} (hl : bs' = [bots] \/ ∃ s', bs' = [stC s']) (h : SpB 134 [.box 100000 0, stockV (⟨false, e.sheet, bar0, emptyB⟩ : Stock)] [stC s] (I r) bs') :
    SpB 56 [.box 100000 0, eventV e] [stC s] (I r) bs' :=
  b_of Tryz.func56 (by kernel_rfl) (by kernel_rfl) rfl (by rcases hl with rfl | ⟨s', rfl⟩ <;> rfl) (recvSh_vc s e hl h)
end Go.Proofs.Led
