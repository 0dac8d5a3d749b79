-- Printed by a program of this session: the kit's printer, with contracts of this session's own among its functions.
import Derived.Test.YtnmfkhnddnohjabPax0
namespace Go.Proofs.Ytnmfkhnddnohjab.Pa
open Go.RowKit Go.Proofs.YtnmfkhnddnohjabW.PrintWords Go.Proofs.YtnmfkhnddnohjabW.PrintLast Go.Proofs.YtnmfkhnddnohjabW.PrintMore
attribute [local go_sem] max2_int min2_int max_two min_two max_three min_three max_four min_four   -- for this text's walks alone
set_option linter.unusedVariables false
set_option linter.unusedSimpArgs false

/-! ### digit_Full: function 10 -/
def digit_Full.f (a0 : Int) : Option (Int) := if a0 < 1 then (some 0) else (if a0 > 9 then (some 0) else (some (wrap32 (65296 + (wrap32 (a0))))))
set_option maxHeartbeats 8000000 in
set_option maxRecDepth 100000 in
theorem digit_Full.calls (a0 : Int) (r : Int) (w : World) (h : digit_Full.f a0 = some r) :
    Calls Try.prog 10 #[.int .i64 a0] w fun e w' => e = .returned (.int .i32 r) ∧ Drawn0 w w' := by
  have H : (if a0 < 1 then (some 0) else (if a0 > 9 then (some 0) else (some (wrap32 (65296 + (wrap32 (a0))))))) = some r := h
  clear h
  by_cases c2 : a0 < 1
  · rw [if_pos c2] at H
    have c2b0 : decide (a0 < 1) = true := decide_eq_true c2
    clear c2
    obtain rfl := Option.some.inj H
    go_enter Try.func10, Try.ntmps10
    go_wp2
    go_ret
    exact ⟨by first | rfl | (simp; done) | (simp [*]; done), by repeat (first | exact Drawn0.refl _ | apply Drawn0.step)⟩
  · rw [if_neg c2] at H
    have c2b0 : decide (a0 < 1) = false := decide_eq_false c2
    clear c2
    by_cases c3 : a0 > 9
    · rw [if_pos c3] at H
      have c3b0 : decide (9 < a0) = true := decide_eq_true c3
      clear c3
      obtain rfl := Option.some.inj H
      go_enter Try.func10, Try.ntmps10
      go_wp2
      go_ret
      exact ⟨by first | rfl | (simp; done) | (simp [*]; done), by repeat (first | exact Drawn0.refl _ | apply Drawn0.step)⟩
    · rw [if_neg c3] at H
      have c3b0 : decide (9 < a0) = false := decide_eq_false c3
      clear c3
      obtain rfl := Option.some.inj H
      go_enter Try.func10, Try.ntmps10
      go_wp2
      go_ret
      exact ⟨by first | rfl | (simp; done) | (simp [*]; done), by repeat (first | exact Drawn0.refl _ | apply Drawn0.step)⟩

/-! ### digit_Word: function 11 -/
def digit_Word.str : ByteArray := ⟨#[228, 184, 128, 228, 186, 140, 228, 184, 137, 229, 155, 155, 228, 186, 148, 229, 133, 173, 228, 184, 131, 229, 133, 171, 228, 185, 157]⟩
def digit_Word.tab : List Nat := [19968, 20108, 19977, 22235, 20116, 20845, 19971, 20843, 20061]
def digit_Word.val (a0 : Int) : Int := if 1 ≤ a0 ∧ a0 ≤ 9 then ((digit_Word.tab.getD (a0.toNat - 1) 0 : Nat) : Int) else 0
def digit_Word.f (a0 : Int) : Option Int := some (digit_Word.val a0)
theorem digit_Word.dec : ∀ j, j < 9 → Utf8.decode digit_Word.str (3 * j) = (digit_Word.tab.getD j 0, 3) ∧ digit_Word.tab.getD j 0 < 50000 := by decide +kernel
theorem digit_Word.valHit (j : Nat) (hj : j < 9) : digit_Word.val ((j : Int) + 1) = ((digit_Word.tab.getD j 0 : Nat) : Int) := by
  unfold digit_Word.val
  rw [if_pos (by omega), show ((j : Int) + 1).toNat - 1 = j by omega]
theorem digit_Word.valOut (a0 : Int) (h : ∀ q : Nat, q < 9 → a0 ≠ (q : Int) + 1) : digit_Word.val a0 = 0 := by
  unfold digit_Word.val
  refine if_neg fun hc => ?_
  exact h (a0.toNat - 1) (by omega) (by omega)
theorem digit_Word.calls (a0 : Int) (r : Int) (w : World) (h : digit_Word.f a0 = some r) :
    Calls Try.prog 11 #[.int .i64 a0] w fun e w' => e = .returned (.int .i32 r) ∧ Below w.heap.size w w' := by
  obtain rfl := Option.some.inj h; clear h
  go_enter Try.func11, Try.ntmps11
  go_wp2
  go_loopg [3] 10 (fun gf s3 wx => ∃ j : Nat, s3 = .int .i64 j ∧ j ≤ 9 ∧ wx.heap[w.heap.size]? = some (.stringIter digit_Word.str (3 * j)) ∧ Below w.heap.size w wx ∧ Hid (∀ q : Nat, q < j → a0 ≠ (q : Int) + 1) ∧ 9 ≤ j + gf)
  case atStart => exact ⟨0, rfl, by omega, World.iter_heap w digit_Word.str 0, (Below.refl _ w).alloc (Nat.le_refl _) _, Lib.hid (fun q hq => absurd hq (by omega)), by omega⟩
  case round =>
    obtain ⟨j, rfl, hj, hit, hbw, hall, hfu⟩ := hrel
    by_cases hps : j < 9
    · obtain ⟨g', rfl⟩ : ∃ g', gk = g' + 1 := ⟨gk - 1, by omega⟩
      have hnx : ∀ ty, (Instr.next (.pointer (some ⟨w.heap.size, 0, none⟩)) true ty).run Try.prog wr = _ := fun ty => Lib.run_next_any_at wr w.heap.size digit_Word.str (3 * j) ty hit (by show 3 * j < 27; omega)
      obtain ⟨hdc, hlt⟩ := digit_Word.dec j hps
      have hV := digit_Word.valHit j hps
      rw [hdc] at hnx
      have hit2 := Lib.iterAt_heap wr w.heap.size digit_Word.str (3 * j) (3 * j + 3) hit
      have hbw2 := Lib.below_iterAt hbw (k := w.heap.size) (Nat.le_refl _) digit_Word.str (3 * j + 3)
      obtain ⟨W, hWd⟩ : ∃ W, wr.iterAt w.heap.size digit_Word.str (3 * j + 3) = W := ⟨_, rfl⟩
      rw [hWd] at hnx hit2 hbw2
      obtain ⟨R, hR⟩ : ∃ R, digit_Word.tab.getD j 0 = R := ⟨_, rfl⟩
      rw [hR] at hnx hV hlt
      have HR := Lib.hid hR; clear hR
      have HW := Lib.hid hWd; clear hWd
      have HD := Lib.hid hdc; clear hdc
      have HV := Lib.hid hV; clear hV
      by_cases hk : a0 = (j : Int) + 1
      · have b1 : ((j : Int) + 1 == a0) = true := by rw [beq_iff_eq]; exact hk.symm
        have HK := Lib.hid hk; clear hk
        go_wp2
        go_ret
        exact ⟨by rw [HK.out, HV.out]; rfl, hbw2⟩
      · have b1 : ((j : Int) + 1 == a0) = false := by rw [beq_eq_false_iff_ne]; exact fun h => hk h.symm
        have HK := Lib.hid hk; clear hk
        go_wp2
        go_roundg g'
        case measure => omega
        case rel => exact ⟨j + 1, by go_num, by omega, hit2, hbw2, Lib.hid (fun q hq he => by
          rcases Nat.lt_succ_iff_lt_or_eq.1 hq with h | h
          · exact hall.out q h he
          · exact HK.out (by rw [he, h])), by omega⟩
    · obtain rfl : j = 9 := by omega
      have hnx : ∀ ty, (Instr.next (.pointer (some ⟨w.heap.size, 0, none⟩)) true ty).run Try.prog wr = _ := fun ty => Lib.run_next_end_at wr w.heap.size digit_Word.str (3 * 9) ty hit (by show ¬ (27 < 27); omega)
      go_wp2
      go_ret
      exact ⟨by rw [digit_Word.valOut a0 hall.out]; rfl, hbw⟩

/-! ### set_File: function 26 -/
def set_File.f (a0 : Int) : Option (Int) := some (wrap64 (Int.tdiv a0 9))
set_option maxHeartbeats 8000000 in
set_option maxRecDepth 100000 in
theorem set_File.calls (a0 : Int) (r : Int) (w : World) (h : set_File.f a0 = some r) :
    Calls Try.prog 26 #[.int .i64 a0] w fun e w' => e = .returned (.int .i64 r) ∧ Drawn0 w w' := by
  have H : (some (wrap64 (Int.tdiv a0 9))) = some r := h
  clear h
  obtain rfl := Option.some.inj H
  go_enter Try.func26, Try.ntmps26
  go_wp2
  go_ret
  exact ⟨by first | rfl | (simp; done) | (simp [*]; done), by repeat (first | exact Drawn0.refl _ | apply Drawn0.step)⟩

/-! ### set_Rank: function 27 -/
def set_Rank.f (a0 : Int) : Option (Int) := some (Int.tmod a0 9)
set_option maxHeartbeats 8000000 in
set_option maxRecDepth 100000 in
theorem set_Rank.calls (a0 : Int) (r : Int) (w : World) (h : set_Rank.f a0 = some r) :
    Calls Try.prog 27 #[.int .i64 a0] w fun e w' => e = .returned (.int .i64 r) ∧ Drawn0 w w' := by
  have H : (some (Int.tmod a0 9)) = some r := h
  clear h
  obtain rfl := Option.some.inj H
  go_enter Try.func27, Try.ntmps27
  go_wp2
  go_ret
  exact ⟨by first | rfl | (simp; done) | (simp [*]; done), by repeat (first | exact Drawn0.refl _ | apply Drawn0.step)⟩

/-! ### digit_Square: function 17 -/
def digit_Square.f (a0 : Int) : Option ByteArray :=
  if a0 < 0 then some ⟨#[]⟩ else if a0 ≥ 81 then some ⟨#[]⟩
  else (set_File.f a0).bind fun t => (digit_Full.f (wrap64 (t + 1))).bind fun u =>
    (set_Rank.f a0).bind fun v => (digit_Word.f (wrap64 (v + 1))).bind fun x => some (runesBytes [u, x])
theorem digit_Square.conv (W : World) (u x : Int) : (convert 41 9 (.slice (some ⟨W.heap.size, 0, none⟩) 2 2)).run Try.prog (W.alloc (.cells #[.int .i32 u, .int .i32 x] 21)) = .ok (.string (runesBytes [u, x])) (W.alloc (.cells #[.int .i32 u, .int .i32 x] 21)) := by
  refine run_convert_runes _ _ _ 21 ⟨W.heap.size, 0, none⟩ 2 2 [u, x] (by simp) Try.underlying41 Try.underlying21 Try.underlying9 ?_
  intro j hj
  have h2 : j < 2 := by simpa using hj
  obtain rfl | rfl : j = 0 ∨ j = 1 := by omega
  · rw [show (Addr.mk W.heap.size 0 none).add 0 = ⟨W.heap.size, 0, none⟩ from rfl, World.cell?_alloc_new]; rfl
  · rw [show (Addr.mk W.heap.size 0 none).add 1 = ⟨W.heap.size, 1, none⟩ from rfl, World.cell?_alloc_new]; rfl
theorem digit_Square.calls (a0 : Int) (r : ByteArray) (w : World) (h : digit_Square.f a0 = some r) :
    Calls Try.prog 17 #[.int .i64 a0] w fun e w' => e = .returned (.string r) ∧ Below w.heap.size w w' := by
  unfold digit_Square.f at h
  by_cases h1 : a0 < 0
  · rw [if_pos h1] at h
    obtain rfl := Option.some.inj h; clear h
    have b1 : decide (a0 < 0) = true := decide_eq_true h1
    go_enter Try.func17, Try.ntmps17
    go_wp2
    go_ret
    exact ⟨rfl, Below.refl _ _⟩
  · rw [if_neg h1] at h
    have b1 : decide (a0 < 0) = false := decide_eq_false h1
    by_cases h2 : a0 ≥ 81
    · rw [if_pos h2] at h
      obtain rfl := Option.some.inj h; clear h
      have b2 : decide (81 ≤ a0) = true := decide_eq_true h2
      go_enter Try.func17, Try.ntmps17
      go_wp2
      go_ret
      exact ⟨rfl, Below.refl _ _⟩
    · rw [if_neg h2] at h
      have b2 : decide (81 ≤ a0) = false := decide_eq_false h2
      obtain ⟨t, ht, hA⟩ := Option.bind_eq_some_iff.mp h
      obtain ⟨u, hu, hB⟩ := Option.bind_eq_some_iff.mp hA
      obtain ⟨v, hv, hC⟩ := Option.bind_eq_some_iff.mp hB
      obtain ⟨x, hx, hD⟩ := Option.bind_eq_some_iff.mp hC
      clear h hA hB hC
      obtain rfl := Option.some.inj hD; clear hD h1 h2
      have Ht := Lib.hid ht; clear ht
      have Hu := Lib.hid hu; clear hu
      have Hv := Lib.hid hv; clear hv
      have Hx := Lib.hid hx; clear hx
      go_enter Try.func17, Try.ntmps17
      go_wp2_with (first | (go_at_call 26; refine (set_File.calls _ _ _ Ht.out).mono ?_; rintro e w' ⟨rfl, ⟨nd, rfl⟩⟩) | (go_at_call 10; refine (digit_Full.calls _ _ _ Hu.out).mono ?_; rintro e w' ⟨rfl, ⟨nd, rfl⟩⟩) | (go_at_call 27; refine (set_Rank.calls _ _ _ Hv.out).mono ?_; rintro e w' ⟨rfl, ⟨nd, rfl⟩⟩) | (go_at_call 11; refine (digit_Word.calls _ _ _ Hx.out).mono ?_; rintro e W ⟨rfl, hb⟩; have HC := digit_Square.conv W u x))
      go_ret
      exact ⟨rfl, (below_step (pw_below_drewN (Below.refl _ _) _) hb).alloc (Nat.le_trans (Nat.le_of_eq rfl) hb.size) _⟩

/-! ### digit_FromFull: function 14 -/
def digit_FromFull.f (a0 : Int) : Option (Int) := if a0 < 65297 then (some 0) else (if a0 > 65305 then (some 0) else (some (wrap64 (wrap32 (a0 - 65296)))))
set_option maxHeartbeats 8000000 in
set_option maxRecDepth 100000 in
theorem digit_FromFull.calls (a0 : Int) (r : Int) (w : World) (h : digit_FromFull.f a0 = some r) :
    Calls Try.prog 14 #[.int .i32 a0] w fun e w' => e = .returned (.int .i64 r) ∧ Drawn0 w w' := by
  have H : (if a0 < 65297 then (some 0) else (if a0 > 65305 then (some 0) else (some (wrap64 (wrap32 (a0 - 65296)))))) = some r := h
  clear h
  by_cases c2 : a0 < 65297
  · rw [if_pos c2] at H
    have c2b0 : decide (a0 < 65297) = true := decide_eq_true c2
    clear c2
    obtain rfl := Option.some.inj H
    go_enter Try.func14, Try.ntmps14
    go_wp2
    go_ret
    exact ⟨by first | rfl | (simp; done) | (simp [*]; done), by repeat (first | exact Drawn0.refl _ | apply Drawn0.step)⟩
  · rw [if_neg c2] at H
    have c2b0 : decide (a0 < 65297) = false := decide_eq_false c2
    clear c2
    by_cases c3 : a0 > 65305
    · rw [if_pos c3] at H
      have c3b0 : decide (65305 < a0) = true := decide_eq_true c3
      clear c3
      obtain rfl := Option.some.inj H
      go_enter Try.func14, Try.ntmps14
      go_wp2
      go_ret
      exact ⟨by first | rfl | (simp; done) | (simp [*]; done), by repeat (first | exact Drawn0.refl _ | apply Drawn0.step)⟩
    · rw [if_neg c3] at H
      have c3b0 : decide (65305 < a0) = false := decide_eq_false c3
      clear c3
      obtain rfl := Option.some.inj H
      go_enter Try.func14, Try.ntmps14
      go_wp2
      go_ret
      exact ⟨by first | rfl | (simp; done) | (simp [*]; done), by repeat (first | exact Drawn0.refl _ | apply Drawn0.step)⟩

/-! ### digit_FromWord: function 15 -/
def digit_FromWord.str : ByteArray := ⟨#[228, 184, 128, 228, 186, 140, 228, 184, 137, 229, 155, 155, 228, 186, 148, 229, 133, 173, 228, 184, 131, 229, 133, 171, 228, 185, 157]⟩
def digit_FromWord.tab : List Nat := [19968, 20108, 19977, 22235, 20116, 20845, 19971, 20843, 20061]
def digit_FromWord.val (a0 : Int) : Int := if a0 = 19968 then 1 else if a0 = 20108 then 2 else if a0 = 19977 then 3 else if a0 = 22235 then 4 else if a0 = 20116 then 5 else if a0 = 20845 then 6 else if a0 = 19971 then 7 else if a0 = 20843 then 8 else if a0 = 20061 then 9 else 0
def digit_FromWord.f (a0 : Int) : Option Int := some (digit_FromWord.val a0)
theorem digit_FromWord.dec : ∀ j, j < 9 → Utf8.decode digit_FromWord.str (3 * j) = (digit_FromWord.tab.getD j 0, 3) ∧ digit_FromWord.tab.getD j 0 < 50000 ∧ digit_FromWord.val ((digit_FromWord.tab.getD j 0 : Nat) : Int) = (j : Int) + 1 := by decide +kernel
theorem digit_FromWord.valOut (a0 : Int) (h : ∀ q : Nat, q < 9 → a0 ≠ ((digit_FromWord.tab.getD q 0 : Nat) : Int)) : digit_FromWord.val a0 = 0 := by
  have h0 : a0 ≠ 19968 := h 0 (by omega); have h1 : a0 ≠ 20108 := h 1 (by omega); have h2 : a0 ≠ 19977 := h 2 (by omega); have h3 : a0 ≠ 22235 := h 3 (by omega); have h4 : a0 ≠ 20116 := h 4 (by omega); have h5 : a0 ≠ 20845 := h 5 (by omega); have h6 : a0 ≠ 19971 := h 6 (by omega); have h7 : a0 ≠ 20843 := h 7 (by omega); have h8 : a0 ≠ 20061 := h 8 (by omega)
  unfold digit_FromWord.val
  rw [if_neg h0, if_neg h1, if_neg h2, if_neg h3, if_neg h4, if_neg h5, if_neg h6, if_neg h7, if_neg h8]
theorem digit_FromWord.calls (a0 : Int) (r : Int) (w : World) (h : digit_FromWord.f a0 = some r) :
    Calls Try.prog 15 #[.int .i32 a0] w fun e w' => e = .returned (.int .i64 r) ∧ Below w.heap.size w w' := by
  obtain rfl := Option.some.inj h; clear h
  go_enter Try.func15, Try.ntmps15
  go_wp2
  go_loopg [3] 10 (fun gf s3 wx => ∃ j : Nat, s3 = .int .i64 j ∧ j ≤ 9 ∧ wx.heap[w.heap.size]? = some (.stringIter digit_FromWord.str (3 * j)) ∧ Below w.heap.size w wx ∧ Hid (∀ q : Nat, q < j → a0 ≠ ((digit_FromWord.tab.getD q 0 : Nat) : Int)) ∧ 9 ≤ j + gf)
  case atStart => exact ⟨0, rfl, by omega, World.iter_heap w digit_FromWord.str 0, (Below.refl _ w).alloc (Nat.le_refl _) _, Lib.hid (fun q hq => absurd hq (by omega)), by omega⟩
  case round =>
    obtain ⟨j, rfl, hj, hit, hbw, hall, hfu⟩ := hrel
    by_cases hps : j < 9
    · obtain ⟨g', rfl⟩ : ∃ g', gk = g' + 1 := ⟨gk - 1, by omega⟩
      have hnx : ∀ ty, (Instr.next (.pointer (some ⟨w.heap.size, 0, none⟩)) true ty).run Try.prog wr = _ := fun ty => Lib.run_next_any_at wr w.heap.size digit_FromWord.str (3 * j) ty hit (by show 3 * j < 27; omega)
      obtain ⟨hdc, hlt, hV⟩ := digit_FromWord.dec j hps
      rw [hdc] at hnx
      have hit2 := Lib.iterAt_heap wr w.heap.size digit_FromWord.str (3 * j) (3 * j + 3) hit
      have hbw2 := Lib.below_iterAt hbw (k := w.heap.size) (Nat.le_refl _) digit_FromWord.str (3 * j + 3)
      obtain ⟨W, hWd⟩ : ∃ W, wr.iterAt w.heap.size digit_FromWord.str (3 * j + 3) = W := ⟨_, rfl⟩
      rw [hWd] at hnx hit2 hbw2
      obtain ⟨R, hR⟩ : ∃ R, digit_FromWord.tab.getD j 0 = R := ⟨_, rfl⟩
      rw [hR] at hnx hV hlt
      have HR := Lib.hid hR; clear hR
      have HW := Lib.hid hWd; clear hWd
      have HD := Lib.hid hdc; clear hdc
      have HV := Lib.hid hV; clear hV
      by_cases hk : a0 = (R : Int)
      · have b1 : (a0 == (R : Int)) = true := by rw [beq_iff_eq]; exact hk
        have HK := Lib.hid hk; clear hk
        go_wp2
        go_ret
        exact ⟨by rw [HK.out, HV.out]; rfl, hbw2⟩
      · have b1 : (a0 == (R : Int)) = false := by rw [beq_eq_false_iff_ne]; exact hk
        have HK := Lib.hid hk; clear hk
        go_wp2
        go_roundg g'
        case measure => omega
        case rel => exact ⟨j + 1, by go_num, by omega, hit2, hbw2, Lib.hid (fun q hq he => by
          rcases Nat.lt_succ_iff_lt_or_eq.1 hq with h | h
          · exact hall.out q h he
          · exact HK.out (by rw [he, h, HR.out])), by omega⟩
    · obtain rfl : j = 9 := by omega
      have hnx : ∀ ty, (Instr.next (.pointer (some ⟨w.heap.size, 0, none⟩)) true ty).run Try.prog wr = _ := fun ty => Lib.run_next_end_at wr w.heap.size digit_FromWord.str (3 * 9) ty hit (by show ¬ (27 < 27); omega)
      go_wp2
      go_ret
      exact ⟨by rw [digit_FromWord.valOut a0 hall.out]; rfl, hbw⟩

/-! ### set_Square: function 28 -/
def set_Square.f (a0 : Int) (a1 : Int) : Option (Int) := if a0 < 0 then (some (-1)) else (if a0 > 8 then (some (-1)) else (if a1 < 0 then (some (-1)) else (if a1 > 8 then (some (-1)) else (some (wrap64 ((wrap64 (9 * a0)) + a1))))))
set_option maxHeartbeats 8000000 in
set_option maxRecDepth 100000 in
theorem set_Square.calls (a0 : Int) (a1 : Int) (r : Int) (w : World) (h : set_Square.f a0 a1 = some r) :
    Calls Try.prog 28 #[.int .i64 a0, .int .i64 a1] w fun e w' => e = .returned (.int .i64 r) ∧ Drawn0 w w' := by
  have H : (if a0 < 0 then (some (-1)) else (if a0 > 8 then (some (-1)) else (if a1 < 0 then (some (-1)) else (if a1 > 8 then (some (-1)) else (some (wrap64 ((wrap64 (9 * a0)) + a1))))))) = some r := h
  clear h
  by_cases c3 : a0 < 0
  · rw [if_pos c3] at H
    have c3b0 : decide (a0 < 0) = true := decide_eq_true c3
    clear c3
    obtain rfl := Option.some.inj H
    go_enter Try.func28, Try.ntmps28
    go_wp2
    go_ret
    exact ⟨by first | rfl | (simp; done) | (simp [*]; done), by repeat (first | exact Drawn0.refl _ | apply Drawn0.step)⟩
  · rw [if_neg c3] at H
    have c3b0 : decide (a0 < 0) = false := decide_eq_false c3
    clear c3
    by_cases c4 : a0 > 8
    · rw [if_pos c4] at H
      have c4b0 : decide (8 < a0) = true := decide_eq_true c4
      clear c4
      obtain rfl := Option.some.inj H
      go_enter Try.func28, Try.ntmps28
      go_wp2
      go_ret
      exact ⟨by first | rfl | (simp; done) | (simp [*]; done), by repeat (first | exact Drawn0.refl _ | apply Drawn0.step)⟩
    · rw [if_neg c4] at H
      have c4b0 : decide (8 < a0) = false := decide_eq_false c4
      clear c4
      by_cases c5 : a1 < 0
      · rw [if_pos c5] at H
        have c5b0 : decide (a1 < 0) = true := decide_eq_true c5
        clear c5
        obtain rfl := Option.some.inj H
        go_enter Try.func28, Try.ntmps28
        go_wp2
        go_ret
        exact ⟨by first | rfl | (simp; done) | (simp [*]; done), by repeat (first | exact Drawn0.refl _ | apply Drawn0.step)⟩
      · rw [if_neg c5] at H
        have c5b0 : decide (a1 < 0) = false := decide_eq_false c5
        clear c5
        by_cases c6 : a1 > 8
        · rw [if_pos c6] at H
          have c6b0 : decide (8 < a1) = true := decide_eq_true c6
          clear c6
          obtain rfl := Option.some.inj H
          go_enter Try.func28, Try.ntmps28
          go_wp2
          go_ret
          exact ⟨by first | rfl | (simp; done) | (simp [*]; done), by repeat (first | exact Drawn0.refl _ | apply Drawn0.step)⟩
        · rw [if_neg c6] at H
          have c6b0 : decide (8 < a1) = false := decide_eq_false c6
          clear c6
          obtain rfl := Option.some.inj H
          go_enter Try.func28, Try.ntmps28
          go_wp2
          go_ret
          exact ⟨by first | rfl | (simp; done) | (simp [*]; done), by repeat (first | exact Drawn0.refl _ | apply Drawn0.step)⟩

/-! ### digit_Cut: function 18 -/
def digit_Cut.f (a0 : ByteArray) : Option (Int × ByteArray) :=
  if a0.size = 0 then some (-1, a0)
  else if (Utf8.decode a0 0).2 < a0.size then
    (digit_FromFull.f ((Utf8.decode a0 0).1 : Int)).bind fun t =>
      (digit_FromWord.f ((Utf8.decode a0 (Utf8.decode a0 0).2).1 : Int)).bind fun u =>
        (set_Square.f (wrap64 (t - 1)) (wrap64 (u - 1))).bind fun q =>
          if 0 ≤ q then
            if (Utf8.decode a0 0).2 + (Utf8.encode ((Utf8.decode a0 (Utf8.decode a0 0).2).1 : Int)).size ≤ a0.size ∧ a0.size ≤ 140737488355328 then some (q, a0.extract ((Utf8.decode a0 0).2 + (Utf8.encode ((Utf8.decode a0 (Utf8.decode a0 0).2).1 : Int)).size) a0.size) else none
          else some (-1, a0)
  else if a0.size ≤ 140737488355328 then (digit_FromFull.f ((Utf8.decode a0 0).1 : Int)).bind fun t => some (-1, a0) else none
theorem digit_Cut.calls_pair (a0 : ByteArray) (r : Int × ByteArray) (w : World) (h : digit_Cut.f a0 = some r) :
    Calls Try.prog 18 #[.string a0] w fun e w' => e = .returned (.tuple #[.int .i64 r.1, .string r.2]) ∧ Below w.heap.size w w' := by
  unfold digit_Cut.f at h
  have hit0 := World.iter_heap w a0 0
  have hbw0 : Below w.heap.size w (w.iter a0 0) := (Below.refl _ w).alloc (Nat.le_refl _) _
  obtain ⟨W0, hW0⟩ : ∃ W, w.iter a0 0 = W := ⟨_, rfl⟩
  rw [hW0] at hit0 hbw0
  by_cases hz : a0.size = 0
  · rw [if_pos hz] at h
    obtain rfl := Option.some.inj h; clear h
    have hnx : ∀ ty, (Instr.next (.pointer (some ⟨w.heap.size, 0, none⟩)) true ty).run Try.prog W0 = _ := fun ty => Lib.run_next_end_at W0 w.heap.size a0 0 ty hit0 (by omega)
    have HZ := Lib.hid hz; clear hz
    have HW := Lib.hid hW0; clear hW0
    go_enter Try.func18, Try.ntmps18
    go_wp2
    rw [HW.out]
    refine wp_loop_rounds 1 ?_
    rw [rounds_succ]
    go_wp2
    go_ret2
    exact ⟨rfl, hbw0⟩
  · rw [if_neg hz] at h
    have hnx : ∀ ty, (Instr.next (.pointer (some ⟨w.heap.size, 0, none⟩)) true ty).run Try.prog W0 = _ := fun ty => Lib.run_next_any_at W0 w.heap.size a0 0 ty hit0 (by omega)
    have hr1 := Lib.rune_le a0 0
    obtain ⟨R1, hR1⟩ : ∃ R, (Utf8.decode a0 0).1 = R := ⟨_, rfl⟩
    obtain ⟨K1, hK1⟩ : ∃ K, (Utf8.decode a0 0).2 = K := ⟨_, rfl⟩
    rw [hR1, hK1] at hnx h
    rw [hR1] at hr1
    have hit2 := Lib.iterAt_heap W0 w.heap.size a0 0 (0 + K1) hit0
    have hbw2 := Lib.below_iterAt hbw0 (k := w.heap.size) (Nat.le_refl _) a0 (0 + K1)
    obtain ⟨W1, hW1⟩ : ∃ W, W0.iterAt w.heap.size a0 (0 + K1) = W := ⟨_, rfl⟩
    rw [hW1] at hnx hit2 hbw2
    rw [Nat.zero_add] at hit2
    have HZ := Lib.hid hz; clear hz
    have HW := Lib.hid hW0; clear hW0
    have HW1 := Lib.hid hW1; clear hW1
    have HR1 := Lib.hid hR1; clear hR1
    have HK1 := Lib.hid hK1; clear hK1
    by_cases hk : K1 < a0.size
    · rw [if_pos hk] at h
      obtain ⟨t, ht, hA⟩ := Option.bind_eq_some_iff.mp h
      obtain ⟨u, hu, hB⟩ := Option.bind_eq_some_iff.mp hA
      obtain ⟨q, hq, hC⟩ := Option.bind_eq_some_iff.mp hB
      clear h hA hB
      have Ht := Lib.hid ht; clear ht
      have Hu := Lib.hid hu; clear hu
      have Hq := Lib.hid hq; clear hq
      have HC := Lib.hid hC; clear hC
      go_enter Try.func18, Try.ntmps18
      go_wp2
      rw [HW.out]
      refine wp_loop_rounds 2 ?_
      rw [rounds_succ]
      go_wp2_with (go_at_call 14; refine (digit_FromFull.calls _ _ _ Ht.out).mono ?_; rintro e w' ⟨rfl, ⟨nd, rfl⟩⟩)
      clear hnx
      have hit3 : (W1.drewN nd).heap[w.heap.size]? = some (.stringIter a0 K1) := hit2
      have hbw3 := pw_below_drewN hbw2 nd
      obtain ⟨W2, hW2⟩ : ∃ W, W1.drewN nd = W := ⟨_, rfl⟩
      rw [hW2] at hit3 hbw3
      rw [hW2]
      clear hW2
      have hnx : ∀ ty, (Instr.next (.pointer (some ⟨w.heap.size, 0, none⟩)) true ty).run Try.prog W2 = _ := fun ty => Lib.run_next_any_at W2 w.heap.size a0 K1 ty hit3 hk
      have hr2 := Lib.rune_le a0 K1
      obtain ⟨R2, hR2⟩ : ∃ R, (Utf8.decode a0 K1).1 = R := ⟨_, rfl⟩
      obtain ⟨K2, hK2⟩ : ∃ K, (Utf8.decode a0 K1).2 = K := ⟨_, rfl⟩
      have hu' := Hu.out
      have hC' := HC.out
      rw [hR2, hK2] at hnx
      rw [hR2] at hr2 hu' hC'
      have HU := Lib.hid hu'; clear hu' Hu
      have HR2 := Lib.hid hR2; clear hR2
      have HK2 := Lib.hid hK2; clear hK2
      have hbw4 := Lib.below_iterAt hbw3 (k := w.heap.size) (Nat.le_refl _) a0 (K1 + K2)
      obtain ⟨W3, hW3⟩ : ∃ W, W2.iterAt w.heap.size a0 (K1 + K2) = W := ⟨_, rfl⟩
      rw [hW3] at hnx hbw4
      have HW3 := Lib.hid hW3; clear hW3
      rw [rounds_succ]
      by_cases h0 : 0 ≤ q
      · rw [if_pos h0] at hC'
        obtain ⟨E, hE⟩ : ∃ E, (Utf8.encode (R2 : Int)).size = E := ⟨_, rfl⟩
        by_cases hs : K1 + E ≤ a0.size ∧ a0.size ≤ 140737488355328
        · rw [hE, if_pos hs] at hC'
          obtain rfl := Option.some.inj hC'
          have b1 : decide (0 ≤ q) = true := decide_eq_true h0
          clear hC' HC
          have HE := Lib.hid hE; clear hE
          go_wp2_with (first | (go_at_call 15; refine (digit_FromWord.calls _ _ _ HU.out).mono ?_; rintro e W5 ⟨rfl, hb5⟩) | (go_at_call 28; refine (set_Square.calls _ _ _ _ Hq.out).mono ?_; rintro e w' ⟨rfl, ⟨nd2, rfl⟩⟩))
          obtain ⟨hs1, hs2⟩ := hs
          have HE' := HE.out
          have e1 : IntKind.i64.wrap ((K1 : Int) + (E : Int)) = (K1 : Int) + (E : Int) := IntWalk.i64_in _ (by omega)
          have e2 : ((K1 : Int) + (E : Int)).toNat = K1 + E := by omega
          have e3 : (0 : Int) ≤ (K1 : Int) + (E : Int) := by omega
          have e4 : (K1 : Int) + (E : Int) ≤ (a0.size : Int) := by omega
          go_quiet (fail)
          go_wp2
          go_ret2
          exact ⟨rfl, pw_below_drewN (below_step hbw4 hb5) _⟩
        · rw [hE, if_neg hs] at hC'
          cases hC'
      · rw [if_neg h0] at hC'
        obtain rfl := Option.some.inj hC'
        have b1 : decide (0 ≤ q) = false := decide_eq_false h0
        clear hC' HC
        go_wp2_with (first | (go_at_call 15; refine (digit_FromWord.calls _ _ _ HU.out).mono ?_; rintro e W5 ⟨rfl, hb5⟩) | (go_at_call 28; refine (set_Square.calls _ _ _ _ Hq.out).mono ?_; rintro e w' ⟨rfl, ⟨nd2, rfl⟩⟩))
        go_ret2
        exact ⟨rfl, pw_below_drewN (below_step hbw4 hb5) _⟩
    · rw [if_neg hk] at h
      by_cases hsz : a0.size ≤ 140737488355328
      · rw [if_pos hsz] at h
        obtain ⟨t, ht, hA⟩ := Option.bind_eq_some_iff.mp h
        clear h
        obtain rfl := Option.some.inj hA; clear hA
        have Ht := Lib.hid ht; clear ht
        go_enter Try.func18, Try.ntmps18
        go_wp2
        rw [HW.out]
        refine wp_loop_rounds 2 ?_
        rw [rounds_succ]
        go_wp2_with (go_at_call 14; refine (digit_FromFull.calls _ _ _ Ht.out).mono ?_; rintro e w' ⟨rfl, ⟨nd, rfl⟩⟩)
        clear hnx
        have hit3 : (W1.drewN nd).heap[w.heap.size]? = some (.stringIter a0 K1) := hit2
        have hbw3 := pw_below_drewN hbw2 nd
        obtain ⟨W2, hW2⟩ : ∃ W, W1.drewN nd = W := ⟨_, rfl⟩
        rw [hW2] at hit3 hbw3
        rw [hW2]
        clear hW2
        have hnx : ∀ ty, (Instr.next (.pointer (some ⟨w.heap.size, 0, none⟩)) true ty).run Try.prog W2 = _ := fun ty => Lib.run_next_end_at W2 w.heap.size a0 K1 ty hit3 hk
        rw [rounds_succ]
        go_wp2
        go_ret2
        exact ⟨rfl, hbw3⟩
      · rw [if_neg hsz] at h
        cases h
theorem digit_Cut.calls (a0 : ByteArray) (r1 : Int) (r2 : ByteArray) (w : World) (h : digit_Cut.f a0 = some (r1, r2)) :
    Calls Try.prog 18 #[.string a0] w fun e w' => e = .returned (.tuple #[.int .i64 r1, .string r2]) ∧ Below w.heap.size w w' :=
  digit_Cut.calls_pair a0 (r1, r2) w h

/-! ### digit_Pad: function 21 -/
def digit_Pad.loop : Nat → Int → List Int → List Int
  | 0, _, cs => cs
  | i + 1, n, cs => if n > 0 ∨ i = 3 then digit_Pad.loop i (n / 10) (cs.set i (48 + n % 10)) else cs
def digit_Pad.f (a0 : Int) : Option ByteArray := if a0 < 0 then some ⟨#[]⟩ else if a0 > 9999 then some ⟨#[]⟩ else some (strOfNums (digit_Pad.loop 4 a0 [32, 32, 32, 32]))
theorem digit_Pad.wrap (n : Int) (h0 : 0 ≤ n) : IntKind.u8.wrap (48 + n % 10) = 48 + n % 10 := by
  have h1 : 0 ≤ n % 10 := by omega
  have h2 : n % 10 < 10 := by omega
  unfold IntKind.wrap
  simp [IntKind.bits, IntKind.signed]
  omega
theorem digit_Pad.calls (a0 : Int) (r : ByteArray) (w : World) (h : digit_Pad.f a0 = some r) :
    Calls Try.prog 21 #[.int .i64 a0] w fun e w' => e = .returned (.string r) ∧ Below w.heap.size w w' := by
  unfold digit_Pad.f at h
  by_cases h1 : a0 < 0
  · rw [if_pos h1] at h
    obtain rfl := Option.some.inj h; clear h
    have b1 : decide (a0 < 0) = true := decide_eq_true h1
    go_enter Try.func21, Try.ntmps21
    go_wp2
    go_ret
    exact ⟨rfl, Below.refl _ _⟩
  · rw [if_neg h1] at h
    have b1 : decide (a0 < 0) = false := decide_eq_false h1
    by_cases h2 : a0 > 9999
    · rw [if_pos h2] at h
      obtain rfl := Option.some.inj h; clear h
      have b2 : decide (9999 < a0) = true := decide_eq_true h2
      go_enter Try.func21, Try.ntmps21
      go_wp2
      go_ret
      exact ⟨rfl, Below.refl _ _⟩
    · rw [if_neg h2] at h
      have b2 : decide (9999 < a0) = false := decide_eq_false h2
      obtain rfl := Option.some.inj h; clear h
      have kc := fun (w : World) (C : Array Value) (n c : Nat) => Lib.run_convert_bytes_const (P := Try.prog) w 43 5 C n c Try.underlying43 Try.underlying5
      go_enter Try.func21, Try.ntmps21
      go_wp2
      clear kc
      go_loopg [0, 4] 5 (fun gf v0 v4 wx => ∃ (i : Nat) (n : Int) (cs : List Int), v4 = .int .i64 ((i : Int) - 1) ∧ i ≤ 4 ∧ v0 = .int .i64 n ∧ 0 ≤ n ∧ n ≤ 9999 ∧ Hid (cs.length = 4) ∧ Hid (digit_Pad.loop i n cs = digit_Pad.loop 4 a0 [32, 32, 32, 32]) ∧ Hid (∀ j : Nat, j < 4 → wx.cell? ⟨w.heap.size, j, none⟩ = some (.int .u8 (cs.getD j 0)) ∧ wx.frozen? ⟨w.heap.size, j, none⟩ = false) ∧ Below w.heap.size w wx ∧ i < gf)
      case atStart =>
        refine ⟨4, a0, [32, 32, 32, 32], rfl, by omega, rfl, by omega, by omega, Lib.hid rfl, Lib.hid rfl, Lib.hid ?_, (Below.refl _ w).alloc (Nat.le_refl _) _, by omega⟩
        intro j hj
        obtain rfl | rfl | rfl | rfl : j = 0 ∨ j = 1 ∨ j = 2 ∨ j = 3 := by omega
        all_goals exact ⟨by rw [World.cell?_alloc_mark]; rfl, by rw [World.frozen?_alloc_mark]; rfl⟩
      case round =>
        clear b1 b2 h1 h2
        obtain ⟨i, n, cs, rfl, hi, rfl, hn0, hn1, hlen, hloop, hcs, hbw, hfu⟩ := hrel
        obtain ⟨g', rfl⟩ : ∃ g', gk = g' + 1 := ⟨gk - 1, by omega⟩
        by_cases hz : i = 0 ∨ (¬ n > 0 ∧ i ≠ 4)
        · have hl0 : digit_Pad.loop i n cs = cs := by
            rcases hz with rfl | ⟨h1, h2⟩
            · rfl
            · cases i with
              | zero => rfl
              | succ i => show (if n > 0 ∨ i = 3 then _ else cs) = cs; exact if_neg (by omega)
          have hL : cs = digit_Pad.loop 4 a0 [32, 32, 32, 32] := hl0.symm.trans hloop.out
          have HL := Lib.hid hL; clear hL hl0
          have hcv : ∀ src, src = 43 → (convert src 9 (.slice (some ⟨w.heap.size, 0, none⟩) 4 4)).run Try.prog wr = .ok (.string (strOfNums cs)) wr := by
            rintro _ rfl
            exact run_convert_bytes_arg (P := Try.prog) wr 43 5 Try.underlying43 Try.underlying5 w.heap.size 0 4 4 cs hlen.out (fun j hj => by rw [Nat.zero_add]; exact (hcs.out j hj).1) 9 Try.underlying9
          have hcv' := hcv _ rfl
          clear hcv
          by_cases h0 : i = 0
          · subst h0
            have e1 : (((0 : Nat) : Int) - 1) = -1 := rfl
            rw [e1]
            clear e1 hz
            go_wp2
            go_ret
            exact ⟨by rw [HL.out]; rfl, hbw⟩
          · obtain ⟨i, rfl⟩ : ∃ m, i = m + 1 := ⟨i - 1, by omega⟩
            obtain ⟨h1, h2⟩ := hz.resolve_left h0
            have e1 : (((i + 1 : Nat) : Int) - 1) = (i : Int) := by omega
            rw [e1]
            clear e1
            have b1 : decide (0 ≤ (i : Int)) = true := decide_eq_true (by omega)
            have b2 : decide (0 < n) = false := decide_eq_false (by omega)
            have b3 : ((i : Int) == 3) = false := by rw [beq_eq_false_iff_ne]; omega
            have HZ := Lib.hid h0; clear h0
            have HZ2 := Lib.hid h2; clear h2
            clear hz
            go_wp2
            go_ret
            exact ⟨by rw [HL.out]; rfl, hbw⟩
        · obtain ⟨i, rfl⟩ : ∃ m, i = m + 1 := ⟨i - 1, by omega⟩
          have hl1 : digit_Pad.loop i (n / 10) (cs.set i (48 + n % 10)) = digit_Pad.loop 4 a0 [32, 32, 32, 32] := by
            rw [← hloop.out]
            show _ = (if n > 0 ∨ i = 3 then _ else cs)
            rw [if_pos (by omega)]
          have HL := Lib.hid hl1; clear hl1
          have hw := digit_Pad.wrap n hn0
          have hcell := (hcs.out i (by omega)).1
          have hfr := (hcs.out i (by omega)).2
          have e1 : (((i + 1 : Nat) : Int) - 1) = (i : Int) := by omega
          rw [e1]
          clear e1
          have b1 : decide (0 ≤ (i : Int)) = true := decide_eq_true (by omega)
          have hfin : ∀ j : Nat, j < 4 → (wr.setCell ⟨w.heap.size, i, none⟩ (.int .u8 (48 + n % 10))).cell? ⟨w.heap.size, j, none⟩ = some (.int .u8 ((cs.set i (48 + n % 10)).getD j 0)) ∧ (wr.setCell ⟨w.heap.size, i, none⟩ (.int .u8 (48 + n % 10))).frozen? ⟨w.heap.size, j, none⟩ = false := by
            intro j hj
            have hl := hlen.out
            refine ⟨?_, by rw [World.frozen?_setCell]; exact (hcs.out j hj).2⟩
            by_cases hij : i = j
            · subst hij
              rw [World.cell?_setCell_same (h := hcell), List.getD_eq_getElem?_getD, List.getElem?_set_self (by omega)]
              rfl
            · rw [World.cell?_setCell_other (h := by simp [hij]), (hcs.out j hj).1]
              rw [List.getD_eq_getElem?_getD, List.getD_eq_getElem?_getD, List.getElem?_set_ne hij]
          have HF := Lib.hid hfin; clear hfin
          have hb2 : Below w.heap.size w (wr.setCell ⟨w.heap.size, i, none⟩ (.int .u8 (48 + n % 10))) := hbw.setCell (Nat.le_refl _) _
          have HLEN : Hid ((cs.set i (48 + n % 10)).length = 4) := Lib.hid (by rw [List.length_set]; exact hlen.out)
          by_cases hn : n > 0
          · have b2 : decide (0 < n) = true := decide_eq_true hn
            have HZ := Lib.hid hz; clear hz
            go_wp2
            go_roundg g'
            case measure => omega
            case rel => exact ⟨i, n / 10, _, rfl, by omega, rfl, by omega, by omega, HLEN, HL, HF, hb2, by omega⟩
          · have b2 : decide (0 < n) = false := decide_eq_false hn
            have b3 : ((i : Int) == 3) = true := by rw [beq_iff_eq]; omega
            have HZ := Lib.hid hz; clear hz
            go_wp2
            go_roundg g'
            case measure => omega
            case rel => exact ⟨i, n / 10, _, rfl, by omega, rfl, by omega, by omega, HLEN, HL, HF, hb2, by omega⟩

/-! ### digit_Number: function 23 -/
def digit_Number.go (s : ByteArray) : Nat → Nat → Int → Option Int
  | 0, _, _ => none
  | g + 1, pos, n =>
    if pos < s.size then
      if ((Utf8.decode s pos).1 : Int) < 48 ∨ ((Utf8.decode s pos).1 : Int) > 57 ∨ pos = 4 ∨ (pos = 1 ∧ n = 0) then some (-1)
      else digit_Number.go s g (pos + (Utf8.decode s pos).2) (10 * n + (((Utf8.decode s pos).1 : Int) - 48))
    else some (if s.size = 0 then -1 else n)
def digit_Number.f (a0 : ByteArray) : Option Int := digit_Number.go a0 6 0 0
theorem digit_Number.width (s : ByteArray) (pos : Nat) (h : pos < s.size) (h9 : (Utf8.decode s pos).1 < 128) : (Utf8.decode s pos).2 = 1 := by
  by_cases ha : (s[pos]'h).toNat < 128
  · rw [decode_ascii s pos h ha]
  · have := (decode_high s pos h (by omega)).1; omega
theorem digit_Number.pows : ∀ pos, pos ≤ 4 → (10 : Int) ^ pos ≤ 10000 ∧ (10 : Int) ^ (pos + 1) = 10 * 10 ^ pos := by
  intro pos h
  obtain rfl | rfl | rfl | rfl | rfl : pos = 0 ∨ pos = 1 ∨ pos = 2 ∨ pos = 3 ∨ pos = 4 := by omega
  all_goals decide
theorem digit_Number.calls (a0 : ByteArray) (r : Int) (w : World) (h : digit_Number.f a0 = some r) :
    Calls Try.prog 23 #[.string a0] w fun e w' => e = .returned (.int .i64 r) ∧ Below w.heap.size w w' := by
  have H0 := Lib.hid h; clear h
  go_enter Try.func23, Try.ntmps23
  go_wp2
  go_loopg [3] 7 (fun gf s3 wx => ∃ (pos : Nat) (n : Int), s3 = .int .i64 n ∧ 0 ≤ n ∧ n ≤ 100000 ∧ pos ≤ 4 ∧ Hid (n < 10 ^ pos) ∧ wx.heap[w.heap.size]? = some (.stringIter a0 pos) ∧ Below w.heap.size w wx ∧ 1 ≤ gf ∧ Hid (digit_Number.go a0 (gf - 1) pos n = some r))
  case atStart => exact ⟨0, 0, rfl, by omega, by omega, by omega, Lib.hid (by decide), World.iter_heap w a0 0, (Below.refl _ w).alloc (Nat.le_refl _) _, by omega, H0⟩
  case round =>
    obtain ⟨pos, n, rfl, hn0, hn1, hp5, hn10, hit, hbw, hg1, hgo⟩ := hrel
    obtain ⟨g', rfl⟩ : ∃ g', gk = g' + 1 := ⟨gk - 1, by omega⟩
    have hgo1 := hgo.out
    rw [Nat.add_sub_cancel] at hgo1
    cases g' with
    | zero => exact absurd hgo1 (by simp [digit_Number.go])
    | succ g' =>
    simp only [digit_Number.go] at hgo1
    by_cases hps : pos < a0.size
    · rw [if_pos hps] at hgo1
      have hnx : ∀ ty, (Instr.next (.pointer (some ⟨w.heap.size, 0, none⟩)) true ty).run Try.prog wr = _ := fun ty => Lib.run_next_any_at wr w.heap.size a0 pos ty hit hps
      obtain ⟨R, hR⟩ : ∃ R, (Utf8.decode a0 pos).1 = R := ⟨_, rfl⟩
      obtain ⟨K, hK⟩ : ∃ K, (Utf8.decode a0 pos).2 = K := ⟨_, rfl⟩
      have hrl := Lib.rune_le a0 pos
      rw [hR, hK] at hgo1 hnx
      rw [hR] at hrl
      have hit2 := Lib.iterAt_heap wr w.heap.size a0 pos (pos + K) hit
      have hbw2 := Lib.below_iterAt hbw (k := w.heap.size) (Nat.le_refl _) a0 (pos + K)
      obtain ⟨W, hWd⟩ : ∃ W, wr.iterAt w.heap.size a0 (pos + K) = W := ⟨_, rfl⟩
      rw [hWd] at hnx hit2 hbw2
      have HW := Lib.hid hWd; clear hWd
      have HR := Lib.hid hR; clear hR
      have HK := Lib.hid hK; clear hK
      have b4 : ((pos : Int) == 4) = decide (pos = 4) := by rw [Bool.eq_iff_iff, beq_iff_eq, decide_eq_true_iff]; omega
      have b5 : ((pos : Int) == 1) = decide (pos = 1) := by rw [Bool.eq_iff_iff, beq_iff_eq, decide_eq_true_iff]; omega
      have b6 : (n == 0) = decide (n = 0) := by rw [Bool.eq_iff_iff, beq_iff_eq, decide_eq_true_iff]
      by_cases h48 : (R : Int) < 48
      · rw [if_pos (.inl h48)] at hgo1
        have b1 : decide ((R : Int) < 48) = true := decide_eq_true h48
        obtain rfl := Option.some.inj hgo1
        clear hgo1 b4 b5 b6 h48
        go_wp2
        go_ret
        exact ⟨rfl, hbw2⟩
      · have b1 : decide ((R : Int) < 48) = false := decide_eq_false h48
        by_cases h57 : (R : Int) > 57
        · rw [if_pos (.inr (.inl h57))] at hgo1
          have b2 : decide (57 < (R : Int)) = true := decide_eq_true h57
          obtain rfl := Option.some.inj hgo1
          clear hgo1 b4 b5 b6
          go_wp2
          go_ret
          exact ⟨rfl, hbw2⟩
        · have b2 : decide (57 < (R : Int)) = false := decide_eq_false h57
          by_cases h4 : pos = 4
          · rw [if_pos (.inr (.inr (.inl h4)))] at hgo1
            obtain rfl := Option.some.inj hgo1
            rw [decide_eq_true h4] at b4
            clear hgo1 b5 b6
            have H4 := Lib.hid h4; clear h4
            go_wp2
            go_ret
            exact ⟨rfl, hbw2⟩
          · rw [decide_eq_false h4] at b4
            by_cases h1 : pos = 1 ∧ n = 0
            · rw [if_pos (.inr (.inr (.inr h1)))] at hgo1
              obtain rfl := Option.some.inj hgo1
              rw [decide_eq_true h1.1] at b5
              rw [decide_eq_true h1.2] at b6
              clear hgo1
              have H4 := Lib.hid h4; clear h4
              have H1 := Lib.hid h1; clear h1
              go_wp2
              go_ret
              exact ⟨rfl, hbw2⟩
            · rw [if_neg (by omega)] at hgo1
              have HG := Lib.hid hgo1; clear hgo1
              have hk1 : K = 1 := by rw [← HK.out]; exact digit_Number.width a0 pos hps (by rw [HR.out]; omega)
              have hp := digit_Number.pows pos hp5
              have hn9 := hn10.out
              have hlt : 10 * n + ((R : Int) - 48) < 10 ^ (pos + 1) := by omega
              have hle : 10 * n + ((R : Int) - 48) ≤ 100000 := by omega
              have HL := Lib.hid hlt; clear hlt hn9 hp
              have HK1 := Lib.hid hk1; clear hk1
              have H4 := Lib.hid h4; clear h4
              by_cases h1p : pos = 1
              · rw [decide_eq_true h1p] at b5
                rw [decide_eq_false (fun h => h1 ⟨h1p, h⟩)] at b6
                have H1 := Lib.hid h1; clear h1
                have H1p := Lib.hid h1p; clear h1p
                go_wp2
                go_roundg (g' + 1)
                case measure => omega
                case rel => exact ⟨pos + K, _, rfl, by omega, by omega, by have := H4.out; have := HK1.out; omega, Lib.hid (by rw [HK1.out]; exact HL.out), hit2, hbw2, by omega, HG⟩
              · rw [decide_eq_false h1p] at b5
                clear b6
                have H1 := Lib.hid h1; clear h1
                have H1p := Lib.hid h1p; clear h1p
                go_wp2
                go_roundg (g' + 1)
                case measure => omega
                case rel => exact ⟨pos + K, _, rfl, by omega, by omega, by have := H4.out; have := HK1.out; omega, Lib.hid (by rw [HK1.out]; exact HL.out), hit2, hbw2, by omega, HG⟩
    · rw [if_neg hps] at hgo1
      have hnx : ∀ ty, (Instr.next (.pointer (some ⟨w.heap.size, 0, none⟩)) true ty).run Try.prog wr = _ := fun ty => Lib.run_next_end_at wr w.heap.size a0 pos ty hit hps
      by_cases hz : a0.size = 0
      · rw [if_pos hz] at hgo1
        obtain rfl := Option.some.inj hgo1
        clear hgo1
        have hb1 : a0.toList = [] := by
          rw [ByteArray.toList_eq]
          exact List.eq_nil_of_length_eq_zero hz
        have hb2 : a0.toList.isEmpty = true := by rw [hb1]; rfl
        have HZ := Lib.hid hz; clear hz hb1
        go_wp2
        go_ret
        exact ⟨rfl, hbw⟩
      · rw [if_neg hz] at hgo1
        obtain rfl := Option.some.inj hgo1
        clear hgo1
        have hb2 : a0.toList.isEmpty = false := by
          rw [Bool.eq_false_iff]
          intro he
          apply hz
          have h0 : a0.toList = [] := List.isEmpty_iff.1 he
          rw [ByteArray.toList_eq] at h0
          exact congrArg List.length h0
        have HZ := Lib.hid hz; clear hz
        go_wp2
        go_ret
        exact ⟨rfl, hbw⟩

/-! ### kakugyolaw15_writes: function 9 -/
def kakugyolaw15_writes.f  : Option (Bool) := (digit_Cut.f (⟨#[239, 188, 151, 229, 133, 173, 230, 173, 169]⟩ : ByteArray)).bind fun bt101 => ((digit_Square.f 59).bind fun t103 => (if t103.toList = ([239, 188, 151, 229, 133, 173] : List UInt8) then (if bt101.1 = 59 then (if bt101.2.toList = ([230, 173, 169] : List UInt8) then ((digit_Pad.f 12).bind fun t104 => (if t104.toList = ([32, 32, 49, 50] : List UInt8) then ((digit_Number.f (⟨#[49, 50]⟩ : ByteArray)).bind fun t105 => (some (t105 == 12))) else (some false))) else (some false)) else (some false)) else (some false)))
set_option maxHeartbeats 8000000 in
set_option maxRecDepth 100000 in
theorem kakugyolaw15_writes.calls  (r : Bool) (w : World) (h : kakugyolaw15_writes.f  = some r) :
    Calls Try.prog 9 #[] w fun e w' => e = .returned (.bool r) ∧ Below w.heap.size w w' := by
  have HB := Aside0.mk (Below.refl w.heap.size w)
  have H : ((digit_Cut.f (⟨#[239, 188, 151, 229, 133, 173, 230, 173, 169]⟩ : ByteArray)).bind fun bt101 => ((digit_Square.f 59).bind fun t103 => (if t103.toList = ([239, 188, 151, 229, 133, 173] : List UInt8) then (if bt101.1 = 59 then (if bt101.2.toList = ([230, 173, 169] : List UInt8) then ((digit_Pad.f 12).bind fun t104 => (if t104.toList = ([32, 32, 49, 50] : List UInt8) then ((digit_Number.f (⟨#[49, 50]⟩ : ByteArray)).bind fun t105 => (some (t105 == 12))) else (some false))) else (some false)) else (some false)) else (some false)))) = some r := h
  clear h
  replace H := Option.bind_eq_some_iff.mp H
  obtain ⟨⟨t101, t102⟩, A10, H⟩ := H
  replace H : ((digit_Square.f 59).bind fun t103 => (if t103.toList = ([239, 188, 151, 229, 133, 173] : List UInt8) then (if t101 = 59 then (if t102.toList = ([230, 173, 169] : List UInt8) then ((digit_Pad.f 12).bind fun t104 => (if t104.toList = ([32, 32, 49, 50] : List UInt8) then ((digit_Number.f (⟨#[49, 50]⟩ : ByteArray)).bind fun t105 => (some (t105 == 12))) else (some false))) else (some false)) else (some false)) else (some false))) = some r := H
  have A1 := Aside0.mk A10
  clear A10
  replace H := Option.bind_eq_some_iff.mp H
  obtain ⟨t103, A20, H⟩ := H
  replace H : (if t103.toList = ([239, 188, 151, 229, 133, 173] : List UInt8) then (if t101 = 59 then (if t102.toList = ([230, 173, 169] : List UInt8) then ((digit_Pad.f 12).bind fun t104 => (if t104.toList = ([32, 32, 49, 50] : List UInt8) then ((digit_Number.f (⟨#[49, 50]⟩ : ByteArray)).bind fun t105 => (some (t105 == 12))) else (some false))) else (some false)) else (some false)) else (some false)) = some r := H
  have A2 := Aside0.mk A20
  clear A20
  by_cases c3 : t103.toList = ([239, 188, 151, 229, 133, 173] : List UInt8)
  · rw [if_pos c3] at H
    have c3b0 : (t103.toList == ([239, 188, 151, 229, 133, 173] : List UInt8)) = true := beq_iff_eq.mpr c3
    have c3b1 : (t103.toList != ([239, 188, 151, 229, 133, 173] : List UInt8)) = false := bne_eq_false_iff_eq.mpr c3
    clear c3
    by_cases c4 : t101 = 59
    · rw [if_pos c4] at H
      have c4b0 : (t101 == 59) = true := beq_iff_eq.mpr c4
      have c4b1 : (t101 != 59) = false := bne_eq_false_iff_eq.mpr c4
      clear c4
      by_cases c5 : t102.toList = ([230, 173, 169] : List UInt8)
      · rw [if_pos c5] at H
        have c5b0 : (t102.toList == ([230, 173, 169] : List UInt8)) = true := beq_iff_eq.mpr c5
        have c5b1 : (t102.toList != ([230, 173, 169] : List UInt8)) = false := bne_eq_false_iff_eq.mpr c5
        clear c5
        replace H := Option.bind_eq_some_iff.mp H
        obtain ⟨t104, A60, H⟩ := H
        replace H : (if t104.toList = ([32, 32, 49, 50] : List UInt8) then ((digit_Number.f (⟨#[49, 50]⟩ : ByteArray)).bind fun t105 => (some (t105 == 12))) else (some false)) = some r := H
        have A6 := Aside0.mk A60
        clear A60
        by_cases c7 : t104.toList = ([32, 32, 49, 50] : List UInt8)
        · rw [if_pos c7] at H
          have c7b0 : (t104.toList == ([32, 32, 49, 50] : List UInt8)) = true := beq_iff_eq.mpr c7
          have c7b1 : (t104.toList != ([32, 32, 49, 50] : List UInt8)) = false := bne_eq_false_iff_eq.mpr c7
          clear c7
          replace H := Option.bind_eq_some_iff.mp H
          obtain ⟨t105, A80, H⟩ := H
          replace H : (some (t105 == 12)) = some r := H
          have A8 := Aside0.mk A80
          clear A80
          obtain rfl := Option.some.inj H
          go_enter Try.func9, Try.ntmps9
          go_wp2_with (first | ((with_reducible refine gate_callee (f := 18) rfl ?_); refine goesL_ (some 4) rfl rfl Try.func18 (by kernel_rfl) rfl #[.string (⟨#[239, 188, 151, 229, 133, 173, 230, 173, 169]⟩ : ByteArray)] rfl (by (try simp only [List.map_toArray, List.map_cons, List.map_nil]); first | done | rfl | (simp only [List.length_drop, List.length_take]; rfl)) ?_; (with_reducible refine (digit_Cut.calls (⟨#[239, 188, 151, 229, 133, 173, 230, 173, 169]⟩ : ByteArray) t101 t102 _ A1.out).mono ?_); rintro e w9 ⟨rfl, hb⟩; refine ⟨_, rfl, ?_⟩; have n0_ := Aside0.mk (below_step (by repeat (first | (with_reducible first | exact HB.out | apply below_alloc | apply pw_below_drewN | apply below_drew1) | exact HB.out)) hb); clear HB; have HB := n0_; clear n0_; (try clear hb); (try clear hb2); (try clear hk); (try clear hi)) | ((with_reducible refine gate_callee (f := 17) rfl ?_); refine goesL_ (some 7) rfl rfl Try.func17 (by kernel_rfl) rfl #[.int .i64 59] rfl (by (try simp only [List.map_toArray, List.map_cons, List.map_nil]); first | done | rfl | (simp only [List.length_drop, List.length_take]; rfl)) ?_; (with_reducible refine (digit_Square.calls 59 t103 _ A2.out).mono ?_); rintro e w10 ⟨rfl, hb⟩; refine ⟨_, rfl, ?_⟩; have n0_ := Aside0.mk (below_step (by repeat (first | (with_reducible first | exact HB.out | apply below_alloc | apply pw_below_drewN | apply below_drew1) | exact HB.out)) hb); clear HB; have HB := n0_; clear n0_; (try clear hb); (try clear hb2); (try clear hk); (try clear hi)) | (go_at_call 21; (with_reducible refine (digit_Pad.calls 12 t104 _ A6.out).mono ?_); rintro e w11 ⟨rfl, hb⟩; have n0_ := Aside0.mk (below_step (by repeat (first | (with_reducible first | exact HB.out | apply below_alloc | apply pw_below_drewN | apply below_drew1) | exact HB.out)) hb); clear HB; have HB := n0_; clear n0_; (try clear hb); (try clear hb2); (try clear hk); (try clear hi)) | (go_at_call 23; (with_reducible refine (digit_Number.calls (⟨#[49, 50]⟩ : ByteArray) t105 _ A8.out).mono ?_); rintro e w12 ⟨rfl, hb⟩; have n0_ := Aside0.mk (below_step (by repeat (first | (with_reducible first | exact HB.out | apply below_alloc | apply pw_below_drewN | apply below_drew1) | exact HB.out)) hb); clear HB; have HB := n0_; clear n0_; (try clear hb); (try clear hb2); (try clear hk); (try clear hi)))
          go_ret
          exact ⟨by first | rfl | (simp [errW_none, errW_some] <;> rfl) | (simp [*, errW_none, errW_some] <;> rfl) | (simp [*, errW_none, errW_some]; generalize ByteArray.toList _ = q_; cases q_ <;> rfl), by repeat (first | (with_reducible first | exact HB.out | apply below_alloc | apply pw_below_drewN | apply below_drew1) | exact HB.out)⟩
        · rw [if_neg c7] at H
          have c7b0 : (t104.toList == ([32, 32, 49, 50] : List UInt8)) = false := beq_eq_false_iff_ne.mpr c7
          have c7b1 : (t104.toList != ([32, 32, 49, 50] : List UInt8)) = true := bne_iff_ne.mpr c7
          obtain rfl := Option.some.inj H
          go_enter Try.func9, Try.ntmps9
          go_wp2_with (first | ((with_reducible refine gate_callee (f := 18) rfl ?_); refine goesL_ (some 4) rfl rfl Try.func18 (by kernel_rfl) rfl #[.string (⟨#[239, 188, 151, 229, 133, 173, 230, 173, 169]⟩ : ByteArray)] rfl (by (try simp only [List.map_toArray, List.map_cons, List.map_nil]); first | done | rfl | (simp only [List.length_drop, List.length_take]; rfl)) ?_; (with_reducible refine (digit_Cut.calls (⟨#[239, 188, 151, 229, 133, 173, 230, 173, 169]⟩ : ByteArray) t101 t102 _ A1.out).mono ?_); rintro e w13 ⟨rfl, hb⟩; refine ⟨_, rfl, ?_⟩; have n0_ := Aside0.mk (below_step (by repeat (first | (with_reducible first | exact HB.out | apply below_alloc | apply pw_below_drewN | apply below_drew1) | exact HB.out)) hb); clear HB; have HB := n0_; clear n0_; (try clear hb); (try clear hb2); (try clear hk); (try clear hi)) | ((with_reducible refine gate_callee (f := 17) rfl ?_); refine goesL_ (some 7) rfl rfl Try.func17 (by kernel_rfl) rfl #[.int .i64 59] rfl (by (try simp only [List.map_toArray, List.map_cons, List.map_nil]); first | done | rfl | (simp only [List.length_drop, List.length_take]; rfl)) ?_; (with_reducible refine (digit_Square.calls 59 t103 _ A2.out).mono ?_); rintro e w14 ⟨rfl, hb⟩; refine ⟨_, rfl, ?_⟩; have n0_ := Aside0.mk (below_step (by repeat (first | (with_reducible first | exact HB.out | apply below_alloc | apply pw_below_drewN | apply below_drew1) | exact HB.out)) hb); clear HB; have HB := n0_; clear n0_; (try clear hb); (try clear hb2); (try clear hk); (try clear hi)) | (go_at_call 21; (with_reducible refine (digit_Pad.calls 12 t104 _ A6.out).mono ?_); rintro e w15 ⟨rfl, hb⟩; have n0_ := Aside0.mk (below_step (by repeat (first | (with_reducible first | exact HB.out | apply below_alloc | apply pw_below_drewN | apply below_drew1) | exact HB.out)) hb); clear HB; have HB := n0_; clear n0_; (try clear hb); (try clear hb2); (try clear hk); (try clear hi)))
          go_ret
          exact ⟨by first | rfl | (simp [errW_none, errW_some] <;> rfl) | (simp [*, errW_none, errW_some] <;> rfl) | (simp [*, errW_none, errW_some]; generalize ByteArray.toList _ = q_; cases q_ <;> rfl), by repeat (first | (with_reducible first | exact HB.out | apply below_alloc | apply pw_below_drewN | apply below_drew1) | exact HB.out)⟩
      · rw [if_neg c5] at H
        have c5b0 : (t102.toList == ([230, 173, 169] : List UInt8)) = false := beq_eq_false_iff_ne.mpr c5
        have c5b1 : (t102.toList != ([230, 173, 169] : List UInt8)) = true := bne_iff_ne.mpr c5
        obtain rfl := Option.some.inj H
        go_enter Try.func9, Try.ntmps9
        go_wp2_with (first | ((with_reducible refine gate_callee (f := 18) rfl ?_); refine goesL_ (some 4) rfl rfl Try.func18 (by kernel_rfl) rfl #[.string (⟨#[239, 188, 151, 229, 133, 173, 230, 173, 169]⟩ : ByteArray)] rfl (by (try simp only [List.map_toArray, List.map_cons, List.map_nil]); first | done | rfl | (simp only [List.length_drop, List.length_take]; rfl)) ?_; (with_reducible refine (digit_Cut.calls (⟨#[239, 188, 151, 229, 133, 173, 230, 173, 169]⟩ : ByteArray) t101 t102 _ A1.out).mono ?_); rintro e w16 ⟨rfl, hb⟩; refine ⟨_, rfl, ?_⟩; have n0_ := Aside0.mk (below_step (by repeat (first | (with_reducible first | exact HB.out | apply below_alloc | apply pw_below_drewN | apply below_drew1) | exact HB.out)) hb); clear HB; have HB := n0_; clear n0_; (try clear hb); (try clear hb2); (try clear hk); (try clear hi)) | ((with_reducible refine gate_callee (f := 17) rfl ?_); refine goesL_ (some 7) rfl rfl Try.func17 (by kernel_rfl) rfl #[.int .i64 59] rfl (by (try simp only [List.map_toArray, List.map_cons, List.map_nil]); first | done | rfl | (simp only [List.length_drop, List.length_take]; rfl)) ?_; (with_reducible refine (digit_Square.calls 59 t103 _ A2.out).mono ?_); rintro e w17 ⟨rfl, hb⟩; refine ⟨_, rfl, ?_⟩; have n0_ := Aside0.mk (below_step (by repeat (first | (with_reducible first | exact HB.out | apply below_alloc | apply pw_below_drewN | apply below_drew1) | exact HB.out)) hb); clear HB; have HB := n0_; clear n0_; (try clear hb); (try clear hb2); (try clear hk); (try clear hi)))
        go_ret
        exact ⟨by first | rfl | (simp [errW_none, errW_some] <;> rfl) | (simp [*, errW_none, errW_some] <;> rfl) | (simp [*, errW_none, errW_some]; generalize ByteArray.toList _ = q_; cases q_ <;> rfl), by repeat (first | (with_reducible first | exact HB.out | apply below_alloc | apply pw_below_drewN | apply below_drew1) | exact HB.out)⟩
    · rw [if_neg c4] at H
      have c4b0 : (t101 == 59) = false := beq_eq_false_iff_ne.mpr c4
      have c4b1 : (t101 != 59) = true := bne_iff_ne.mpr c4
      obtain rfl := Option.some.inj H
      go_enter Try.func9, Try.ntmps9
      go_wp2_with (first | ((with_reducible refine gate_callee (f := 18) rfl ?_); refine goesL_ (some 4) rfl rfl Try.func18 (by kernel_rfl) rfl #[.string (⟨#[239, 188, 151, 229, 133, 173, 230, 173, 169]⟩ : ByteArray)] rfl (by (try simp only [List.map_toArray, List.map_cons, List.map_nil]); first | done | rfl | (simp only [List.length_drop, List.length_take]; rfl)) ?_; (with_reducible refine (digit_Cut.calls (⟨#[239, 188, 151, 229, 133, 173, 230, 173, 169]⟩ : ByteArray) t101 t102 _ A1.out).mono ?_); rintro e w18 ⟨rfl, hb⟩; refine ⟨_, rfl, ?_⟩; have n0_ := Aside0.mk (below_step (by repeat (first | (with_reducible first | exact HB.out | apply below_alloc | apply pw_below_drewN | apply below_drew1) | exact HB.out)) hb); clear HB; have HB := n0_; clear n0_; (try clear hb); (try clear hb2); (try clear hk); (try clear hi)) | ((with_reducible refine gate_callee (f := 17) rfl ?_); refine goesL_ (some 7) rfl rfl Try.func17 (by kernel_rfl) rfl #[.int .i64 59] rfl (by (try simp only [List.map_toArray, List.map_cons, List.map_nil]); first | done | rfl | (simp only [List.length_drop, List.length_take]; rfl)) ?_; (with_reducible refine (digit_Square.calls 59 t103 _ A2.out).mono ?_); rintro e w19 ⟨rfl, hb⟩; refine ⟨_, rfl, ?_⟩; have n0_ := Aside0.mk (below_step (by repeat (first | (with_reducible first | exact HB.out | apply below_alloc | apply pw_below_drewN | apply below_drew1) | exact HB.out)) hb); clear HB; have HB := n0_; clear n0_; (try clear hb); (try clear hb2); (try clear hk); (try clear hi)))
      go_ret
      exact ⟨by first | rfl | (simp [errW_none, errW_some] <;> rfl) | (simp [*, errW_none, errW_some] <;> rfl) | (simp [*, errW_none, errW_some]; generalize ByteArray.toList _ = q_; cases q_ <;> rfl), by repeat (first | (with_reducible first | exact HB.out | apply below_alloc | apply pw_below_drewN | apply below_drew1) | exact HB.out)⟩
  · rw [if_neg c3] at H
    have c3b0 : (t103.toList == ([239, 188, 151, 229, 133, 173] : List UInt8)) = false := beq_eq_false_iff_ne.mpr c3
    have c3b1 : (t103.toList != ([239, 188, 151, 229, 133, 173] : List UInt8)) = true := bne_iff_ne.mpr c3
    obtain rfl := Option.some.inj H
    go_enter Try.func9, Try.ntmps9
    go_wp2_with (first | ((with_reducible refine gate_callee (f := 18) rfl ?_); refine goesL_ (some 4) rfl rfl Try.func18 (by kernel_rfl) rfl #[.string (⟨#[239, 188, 151, 229, 133, 173, 230, 173, 169]⟩ : ByteArray)] rfl (by (try simp only [List.map_toArray, List.map_cons, List.map_nil]); first | done | rfl | (simp only [List.length_drop, List.length_take]; rfl)) ?_; (with_reducible refine (digit_Cut.calls (⟨#[239, 188, 151, 229, 133, 173, 230, 173, 169]⟩ : ByteArray) t101 t102 _ A1.out).mono ?_); rintro e w20 ⟨rfl, hb⟩; refine ⟨_, rfl, ?_⟩; have n0_ := Aside0.mk (below_step (by repeat (first | (with_reducible first | exact HB.out | apply below_alloc | apply pw_below_drewN | apply below_drew1) | exact HB.out)) hb); clear HB; have HB := n0_; clear n0_; (try clear hb); (try clear hb2); (try clear hk); (try clear hi)) | ((with_reducible refine gate_callee (f := 17) rfl ?_); refine goesL_ (some 7) rfl rfl Try.func17 (by kernel_rfl) rfl #[.int .i64 59] rfl (by (try simp only [List.map_toArray, List.map_cons, List.map_nil]); first | done | rfl | (simp only [List.length_drop, List.length_take]; rfl)) ?_; (with_reducible refine (digit_Square.calls 59 t103 _ A2.out).mono ?_); rintro e w21 ⟨rfl, hb⟩; refine ⟨_, rfl, ?_⟩; have n0_ := Aside0.mk (below_step (by repeat (first | (with_reducible first | exact HB.out | apply below_alloc | apply pw_below_drewN | apply below_drew1) | exact HB.out)) hb); clear HB; have HB := n0_; clear n0_; (try clear hb); (try clear hb2); (try clear hk); (try clear hi)))
    go_ret
    exact ⟨by first | rfl | (simp [errW_none, errW_some] <;> rfl) | (simp [*, errW_none, errW_some] <;> rfl) | (simp [*, errW_none, errW_some]; generalize ByteArray.toList _ = q_; cases q_ <;> rfl), by repeat (first | (with_reducible first | exact HB.out | apply below_alloc | apply pw_below_drewN | apply below_drew1) | exact HB.out)⟩

/-! ### kakugyoref15_Full: function 12 -/
def kakugyoref15_Full.f  : Option (List ByteArray) := some (([(⟨#[]⟩ : ByteArray), (⟨#[239, 188, 145]⟩ : ByteArray), (⟨#[239, 188, 146]⟩ : ByteArray), (⟨#[239, 188, 147]⟩ : ByteArray), (⟨#[239, 188, 148]⟩ : ByteArray), (⟨#[239, 188, 149]⟩ : ByteArray), (⟨#[239, 188, 150]⟩ : ByteArray), (⟨#[239, 188, 151]⟩ : ByteArray), (⟨#[239, 188, 152]⟩ : ByteArray), (⟨#[239, 188, 153]⟩ : ByteArray)] : List ByteArray))
set_option maxHeartbeats 8000000 in
set_option maxRecDepth 100000 in
theorem kakugyoref15_Full.calls  (r : List ByteArray) (w : World) (h : kakugyoref15_Full.f  = some r) :
    Calls Try.prog 12 #[] w fun e w' => ∃ v0_ : Value, e = .returned (v0_) ∧ Kd.R Kd.string 9 w' w.heap.size (fun _ => True) v0_ r ∧ Below w.heap.size w w' := by
  have HB := Aside0.mk (Below.refl w.heap.size w)
  have H : (some (([(⟨#[]⟩ : ByteArray), (⟨#[239, 188, 145]⟩ : ByteArray), (⟨#[239, 188, 146]⟩ : ByteArray), (⟨#[239, 188, 147]⟩ : ByteArray), (⟨#[239, 188, 148]⟩ : ByteArray), (⟨#[239, 188, 149]⟩ : ByteArray), (⟨#[239, 188, 150]⟩ : ByteArray), (⟨#[239, 188, 151]⟩ : ByteArray), (⟨#[239, 188, 152]⟩ : ByteArray), (⟨#[239, 188, 153]⟩ : ByteArray)] : List ByteArray))) = some r := h
  clear h
  obtain ⟨y106, hy106⟩ : ∃ y_ : List ByteArray, y_ = (([(⟨#[]⟩ : ByteArray), (⟨#[239, 188, 145]⟩ : ByteArray), (⟨#[239, 188, 146]⟩ : ByteArray), (⟨#[239, 188, 147]⟩ : ByteArray), (⟨#[239, 188, 148]⟩ : ByteArray), (⟨#[239, 188, 149]⟩ : ByteArray), (⟨#[239, 188, 150]⟩ : ByteArray), (⟨#[239, 188, 151]⟩ : ByteArray), (⟨#[239, 188, 152]⟩ : ByteArray), (⟨#[239, 188, 153]⟩ : ByteArray)] : List ByteArray)) := ⟨_, rfl⟩
  replace H : (some y106) = some r := by first | (rw [hy106]; with_reducible exact H) | (have H2_ := (Option.bind_some _ _).symm.trans H; rw [hy106]; with_reducible exact H2_) | (have H2_ := (Option.bind_some _ _).symm.trans H; with_reducible exact H2_) | with_reducible exact H | (rw [hy106]; exact H) | exact H
  have Ny106 := Aside0.mk hy106
  clear hy106
  obtain rfl := Option.some.inj H
  go_enter Try.func12, Try.ntmps12
  go_wp2_with (first | ((with_reducible refine gate_dst (N := 1) rfl ?_); refine Kd.R_lit Kd.string _ 9 ?hg (N := 1) ?hd (xs := ([(⟨#[]⟩ : ByteArray), (⟨#[239, 188, 145]⟩ : ByteArray), (⟨#[239, 188, 146]⟩ : ByteArray), (⟨#[239, 188, 147]⟩ : ByteArray), (⟨#[239, 188, 148]⟩ : ByteArray), (⟨#[239, 188, 149]⟩ : ByteArray), (⟨#[239, 188, 150]⟩ : ByteArray), (⟨#[239, 188, 151]⟩ : ByteArray), (⟨#[239, 188, 152]⟩ : ByteArray), (⟨#[239, 188, 153]⟩ : ByteArray)] : List ByteArray)) (inner := [.string (⟨#[]⟩ : ByteArray), .string (⟨#[239, 188, 145]⟩ : ByteArray), .string (⟨#[239, 188, 146]⟩ : ByteArray), .string (⟨#[239, 188, 147]⟩ : ByteArray), .string (⟨#[239, 188, 148]⟩ : ByteArray), .string (⟨#[239, 188, 149]⟩ : ByteArray), .string (⟨#[239, 188, 150]⟩ : ByteArray), .string (⟨#[239, 188, 151]⟩ : ByteArray), .string (⟨#[239, 188, 152]⟩ : ByteArray), .string (⟨#[239, 188, 153]⟩ : ByteArray)]) (ok := fun _ => True) (okp := fun _ => True) ?hr ?hp (fun _ hk => hk) trivial (Below.refl _ _) (Nat.le_refl _) (by simp) ?_; (case hd => rfl); (case hg => rfl); (case hr => first | (go_simp; done) | (go_simp; rfl)); (case hp => exact (Reps.one (show Kd.M Kd.string _ _ _ (⟨#[]⟩ : ByteArray) [.string (⟨#[]⟩ : ByteArray)] from rfl) (Reps.one (show Kd.M Kd.string _ _ _ (⟨#[239, 188, 145]⟩ : ByteArray) [.string (⟨#[239, 188, 145]⟩ : ByteArray)] from rfl) (Reps.one (show Kd.M Kd.string _ _ _ (⟨#[239, 188, 146]⟩ : ByteArray) [.string (⟨#[239, 188, 146]⟩ : ByteArray)] from rfl) (Reps.one (show Kd.M Kd.string _ _ _ (⟨#[239, 188, 147]⟩ : ByteArray) [.string (⟨#[239, 188, 147]⟩ : ByteArray)] from rfl) (Reps.one (show Kd.M Kd.string _ _ _ (⟨#[239, 188, 148]⟩ : ByteArray) [.string (⟨#[239, 188, 148]⟩ : ByteArray)] from rfl) (Reps.one (show Kd.M Kd.string _ _ _ (⟨#[239, 188, 149]⟩ : ByteArray) [.string (⟨#[239, 188, 149]⟩ : ByteArray)] from rfl) (Reps.one (show Kd.M Kd.string _ _ _ (⟨#[239, 188, 150]⟩ : ByteArray) [.string (⟨#[239, 188, 150]⟩ : ByteArray)] from rfl) (Reps.one (show Kd.M Kd.string _ _ _ (⟨#[239, 188, 151]⟩ : ByteArray) [.string (⟨#[239, 188, 151]⟩ : ByteArray)] from rfl) (Reps.one (show Kd.M Kd.string _ _ _ (⟨#[239, 188, 152]⟩ : ByteArray) [.string (⟨#[239, 188, 152]⟩ : ByteArray)] from rfl) (Reps.one (show Kd.M Kd.string _ _ _ (⟨#[239, 188, 153]⟩ : ByteArray) [.string (⟨#[239, 188, 153]⟩ : ByteArray)] from rfl) (Reps.none _ _)))))))))))); intro v107 w1 ho2 hb hg_ hnew_; clear hg_ hnew_; (first | rw [← Ny106.out] at ho2 | (simp only [Int.reduceToNat] at ho2; rw [← Ny106.out] at ho2)); have n0_ := Aside0.mk (Kd.R_lower ho2 (below_size (by repeat (first | (with_reducible first | exact HB.out | apply below_alloc | apply pw_below_drewN | apply below_drew1) | exact HB.out)))); have n1_ := Aside0.mk (below_step (by repeat (first | (with_reducible first | exact HB.out | apply below_alloc | apply pw_below_drewN | apply below_drew1) | exact HB.out)) hb); clear HB; have HO108 := n0_; have HB := n1_; clear n0_ n1_; clear hb ho2))
  go_ret
  exact ⟨_, by first | rfl | (simp [errW_none, errW_some] <;> rfl) | (simp [*, errW_none, errW_some] <;> rfl), by (with_reducible repeat (first | apply Kd.R_alloc | apply Kd.R_drewN | apply Kd.R_drew)); exact HO108.out, by repeat (first | (with_reducible first | exact HB.out | apply below_alloc | apply pw_below_drewN | apply below_drew1) | exact HB.out)⟩

/-! ### kakugyoref15_Words: function 13 -/
def kakugyoref15_Words.f  : Option (List ByteArray) := some (([(⟨#[]⟩ : ByteArray), (⟨#[228, 184, 128]⟩ : ByteArray), (⟨#[228, 186, 140]⟩ : ByteArray), (⟨#[228, 184, 137]⟩ : ByteArray), (⟨#[229, 155, 155]⟩ : ByteArray), (⟨#[228, 186, 148]⟩ : ByteArray), (⟨#[229, 133, 173]⟩ : ByteArray), (⟨#[228, 184, 131]⟩ : ByteArray), (⟨#[229, 133, 171]⟩ : ByteArray), (⟨#[228, 185, 157]⟩ : ByteArray)] : List ByteArray))
set_option maxHeartbeats 8000000 in
set_option maxRecDepth 100000 in
theorem kakugyoref15_Words.calls  (r : List ByteArray) (w : World) (h : kakugyoref15_Words.f  = some r) :
    Calls Try.prog 13 #[] w fun e w' => ∃ v0_ : Value, e = .returned (v0_) ∧ Kd.R Kd.string 9 w' w.heap.size (fun _ => True) v0_ r ∧ Below w.heap.size w w' := by
  have HB := Aside0.mk (Below.refl w.heap.size w)
  have H : (some (([(⟨#[]⟩ : ByteArray), (⟨#[228, 184, 128]⟩ : ByteArray), (⟨#[228, 186, 140]⟩ : ByteArray), (⟨#[228, 184, 137]⟩ : ByteArray), (⟨#[229, 155, 155]⟩ : ByteArray), (⟨#[228, 186, 148]⟩ : ByteArray), (⟨#[229, 133, 173]⟩ : ByteArray), (⟨#[228, 184, 131]⟩ : ByteArray), (⟨#[229, 133, 171]⟩ : ByteArray), (⟨#[228, 185, 157]⟩ : ByteArray)] : List ByteArray))) = some r := h
  clear h
  obtain ⟨y109, hy109⟩ : ∃ y_ : List ByteArray, y_ = (([(⟨#[]⟩ : ByteArray), (⟨#[228, 184, 128]⟩ : ByteArray), (⟨#[228, 186, 140]⟩ : ByteArray), (⟨#[228, 184, 137]⟩ : ByteArray), (⟨#[229, 155, 155]⟩ : ByteArray), (⟨#[228, 186, 148]⟩ : ByteArray), (⟨#[229, 133, 173]⟩ : ByteArray), (⟨#[228, 184, 131]⟩ : ByteArray), (⟨#[229, 133, 171]⟩ : ByteArray), (⟨#[228, 185, 157]⟩ : ByteArray)] : List ByteArray)) := ⟨_, rfl⟩
  replace H : (some y109) = some r := by first | (rw [hy109]; with_reducible exact H) | (have H2_ := (Option.bind_some _ _).symm.trans H; rw [hy109]; with_reducible exact H2_) | (have H2_ := (Option.bind_some _ _).symm.trans H; with_reducible exact H2_) | with_reducible exact H | (rw [hy109]; exact H) | exact H
  have Ny109 := Aside0.mk hy109
  clear hy109
  obtain rfl := Option.some.inj H
  go_enter Try.func13, Try.ntmps13
  go_wp2_with (first | ((with_reducible refine gate_dst (N := 1) rfl ?_); refine Kd.R_lit Kd.string _ 9 ?hg (N := 1) ?hd (xs := ([(⟨#[]⟩ : ByteArray), (⟨#[228, 184, 128]⟩ : ByteArray), (⟨#[228, 186, 140]⟩ : ByteArray), (⟨#[228, 184, 137]⟩ : ByteArray), (⟨#[229, 155, 155]⟩ : ByteArray), (⟨#[228, 186, 148]⟩ : ByteArray), (⟨#[229, 133, 173]⟩ : ByteArray), (⟨#[228, 184, 131]⟩ : ByteArray), (⟨#[229, 133, 171]⟩ : ByteArray), (⟨#[228, 185, 157]⟩ : ByteArray)] : List ByteArray)) (inner := [.string (⟨#[]⟩ : ByteArray), .string (⟨#[228, 184, 128]⟩ : ByteArray), .string (⟨#[228, 186, 140]⟩ : ByteArray), .string (⟨#[228, 184, 137]⟩ : ByteArray), .string (⟨#[229, 155, 155]⟩ : ByteArray), .string (⟨#[228, 186, 148]⟩ : ByteArray), .string (⟨#[229, 133, 173]⟩ : ByteArray), .string (⟨#[228, 184, 131]⟩ : ByteArray), .string (⟨#[229, 133, 171]⟩ : ByteArray), .string (⟨#[228, 185, 157]⟩ : ByteArray)]) (ok := fun _ => True) (okp := fun _ => True) ?hr ?hp (fun _ hk => hk) trivial (Below.refl _ _) (Nat.le_refl _) (by simp) ?_; (case hd => rfl); (case hg => rfl); (case hr => first | (go_simp; done) | (go_simp; rfl)); (case hp => exact (Reps.one (show Kd.M Kd.string _ _ _ (⟨#[]⟩ : ByteArray) [.string (⟨#[]⟩ : ByteArray)] from rfl) (Reps.one (show Kd.M Kd.string _ _ _ (⟨#[228, 184, 128]⟩ : ByteArray) [.string (⟨#[228, 184, 128]⟩ : ByteArray)] from rfl) (Reps.one (show Kd.M Kd.string _ _ _ (⟨#[228, 186, 140]⟩ : ByteArray) [.string (⟨#[228, 186, 140]⟩ : ByteArray)] from rfl) (Reps.one (show Kd.M Kd.string _ _ _ (⟨#[228, 184, 137]⟩ : ByteArray) [.string (⟨#[228, 184, 137]⟩ : ByteArray)] from rfl) (Reps.one (show Kd.M Kd.string _ _ _ (⟨#[229, 155, 155]⟩ : ByteArray) [.string (⟨#[229, 155, 155]⟩ : ByteArray)] from rfl) (Reps.one (show Kd.M Kd.string _ _ _ (⟨#[228, 186, 148]⟩ : ByteArray) [.string (⟨#[228, 186, 148]⟩ : ByteArray)] from rfl) (Reps.one (show Kd.M Kd.string _ _ _ (⟨#[229, 133, 173]⟩ : ByteArray) [.string (⟨#[229, 133, 173]⟩ : ByteArray)] from rfl) (Reps.one (show Kd.M Kd.string _ _ _ (⟨#[228, 184, 131]⟩ : ByteArray) [.string (⟨#[228, 184, 131]⟩ : ByteArray)] from rfl) (Reps.one (show Kd.M Kd.string _ _ _ (⟨#[229, 133, 171]⟩ : ByteArray) [.string (⟨#[229, 133, 171]⟩ : ByteArray)] from rfl) (Reps.one (show Kd.M Kd.string _ _ _ (⟨#[228, 185, 157]⟩ : ByteArray) [.string (⟨#[228, 185, 157]⟩ : ByteArray)] from rfl) (Reps.none _ _)))))))))))); intro v110 w1 ho2 hb hg_ hnew_; clear hg_ hnew_; (first | rw [← Ny109.out] at ho2 | (simp only [Int.reduceToNat] at ho2; rw [← Ny109.out] at ho2)); have n0_ := Aside0.mk (Kd.R_lower ho2 (below_size (by repeat (first | (with_reducible first | exact HB.out | apply below_alloc | apply pw_below_drewN | apply below_drew1) | exact HB.out)))); have n1_ := Aside0.mk (below_step (by repeat (first | (with_reducible first | exact HB.out | apply below_alloc | apply pw_below_drewN | apply below_drew1) | exact HB.out)) hb); clear HB; have HO111 := n0_; have HB := n1_; clear n0_ n1_; clear hb ho2))
  go_ret
  exact ⟨_, by first | rfl | (simp [errW_none, errW_some] <;> rfl) | (simp [*, errW_none, errW_some] <;> rfl), by (with_reducible repeat (first | apply Kd.R_alloc | apply Kd.R_drewN | apply Kd.R_drew)); exact HO111.out, by repeat (first | (with_reducible first | exact HB.out | apply below_alloc | apply pw_below_drewN | apply below_drew1) | exact HB.out)⟩

end Go.Proofs.Ytnmfkhnddnohjab.Pa
