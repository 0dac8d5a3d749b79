-- Printed by a program of this session: the kit's printer, with contracts of this session's own among its functions.
import Derived.Test.YtnmfkhnddnohjaaPax0
namespace Go.Proofs.Ytnmfkhnddnohjaa.Pa
open Go.RowKit Go.Proofs.YtnmfkhnddnohjaaW.PrintWords Go.Proofs.YtnmfkhnddnohjaaW.PrintLast Go.Proofs.YtnmfkhnddnohjaaW.PrintMore
attribute [local go_sem] max2_int min2_int max_two min_two max_three min_three max_four min_four   -- for this text's walks alone
set_option linter.unusedVariables false
set_option linter.unusedSimpArgs false

/-! ### piece_Kind: function 11 -/
def piece_Kind.j0 : Nat → Int → Int → Bool → Option (Int)
  | 0, _, _, _ => none
  | k + 1, x0, x3, x20 => if x20 = true then (if x0 = 8 then (some 8) else (if x0 = 24 then (some 8) else (some 0))) else (some x3)
def piece_Kind.f (k : Nat) (a0 : Int) : Option (Int) := if a0 ≤ 0 then (piece_Kind.j0 k a0 (Go.bits .and .i64 (wrap64 (a0)) 15) true) else (if a0 > 31 then (piece_Kind.j0 k a0 (Go.bits .and .i64 (wrap64 (a0)) 15) true) else (if (Go.bits .and .i64 (wrap64 (a0)) 15) = 0 then (piece_Kind.j0 k a0 (Go.bits .and .i64 (wrap64 (a0)) 15) true) else (piece_Kind.j0 k a0 (Go.bits .and .i64 (wrap64 (a0)) 15) ((Go.bits .and .i64 (wrap64 (a0)) 15) == 13))))
theorem piece_Kind.mono_l : ∀ k, (∀ y0 y1 y2, LeO (piece_Kind.j0 k y0 y1 y2) (piece_Kind.j0 (k + 1) y0 y1 y2))
  | 0 => fun _ _ _ r h => by simp [piece_Kind.j0] at h
  | k + 1 => by
    have ih0 := piece_Kind.mono_l k
    · intro y0 y1 y2
      unfold piece_Kind.j0
      repeat' first
      | (with_reducible exact ih0 _ _ _)
      | (with_reducible exact LeO.refl _)
      | (with_reducible exact LeO.none _)
      | (with_reducible refine LeO.ite ?_ ?_)
      | (with_reducible refine LeO.bind ?_ (fun _ => ?_))
      | exact ih0 _ _ _
      | exact LeO.none _
      | refine LeO.ite ?_ ?_
      | refine LeO.bind ?_ (fun _ => ?_)
theorem piece_Kind.mono : ∀ a0 k, LeO (piece_Kind.f k a0) (piece_Kind.f (k + 1) a0) := by
  intro a0 k
  have ih0 := piece_Kind.mono_l k
  unfold piece_Kind.f
  repeat' first
      | (with_reducible exact ih0 _ _ _)
      | (with_reducible exact LeO.refl _)
      | (with_reducible exact LeO.none _)
      | (with_reducible refine LeO.ite ?_ ?_)
      | (with_reducible refine LeO.bind ?_ (fun _ => ?_))
      | exact ih0 _ _ _
      | exact LeO.none _
      | refine LeO.ite ?_ ?_
      | refine LeO.bind ?_ (fun _ => ?_)
set_option maxHeartbeats 8000000 in
set_option maxRecDepth 100000 in
theorem piece_Kind.calls (k : Nat) (a0 : Int) (r : Int) (w : World) (h : piece_Kind.f k a0 = some r) :
    Calls Try.prog 11 #[.int .i8 a0] w fun e w' => e = .returned (.int .i64 r) ∧ Drawn0 w w' := by
  have H : (if a0 ≤ 0 then (piece_Kind.j0 k a0 (Go.bits .and .i64 (wrap64 (a0)) 15) true) else (if a0 > 31 then (piece_Kind.j0 k a0 (Go.bits .and .i64 (wrap64 (a0)) 15) true) else (if (Go.bits .and .i64 (wrap64 (a0)) 15) = 0 then (piece_Kind.j0 k a0 (Go.bits .and .i64 (wrap64 (a0)) 15) true) else (piece_Kind.j0 k a0 (Go.bits .and .i64 (wrap64 (a0)) 15) ((Go.bits .and .i64 (wrap64 (a0)) 15) == 13))))) = some r := h
  clear h
  have HC2 := Aside0.mk H
  clear H
  go_enter Try.func11, Try.ntmps11
  go_upto_region 2 with (fail)
  go_cut [20] (fun v20 wc => ∃ (kq : Nat) (x20_1 : Bool), v20 = .bool x20_1 ∧ Aside0 (piece_Kind.j0 kq a0 (Go.bits .and .i64 (wrap64 (a0)) 15) x20_1 = some r) ∧ Aside0 (kq ≤ k) ∧ Drawn0 w wc)
  case first =>
    have H := HC2.out
    clear HC2
    by_cases c3 : a0 ≤ 0
    · rw [if_pos c3] at H
      have c3b0 : decide (a0 ≤ 0) = true := decide_eq_true c3
      clear c3
      (first | rw [c3b0] | (simp only [i64_w, i32_w]; rw [c3b0]) | skip)
      have H' := Aside0.mk H
      clear H
      go_wp2
      go_meet
      case rel => exact ⟨_, (true), (by first | rfl | (simp; done) | (simp [*]; done)), H', ⟨by first | omega | exact Nat.le_refl _⟩, by repeat (first | exact Drawn0.refl _ | apply Drawn0.step)⟩
    · rw [if_neg c3] at H
      have c3b0 : decide (a0 ≤ 0) = false := decide_eq_false c3
      clear c3
      (first | rw [c3b0] | (simp only [i64_w, i32_w]; rw [c3b0]) | skip)
      by_cases c4 : a0 > 31
      · rw [if_pos c4] at H
        have c4b0 : decide (31 < a0) = true := decide_eq_true c4
        clear c4
        have H' := Aside0.mk H
        clear H
        go_wp2
        go_meet
        case rel => exact ⟨_, (true), (by first | rfl | (simp; done) | (simp [*]; done)), H', ⟨by first | omega | exact Nat.le_refl _⟩, by repeat (first | exact Drawn0.refl _ | apply Drawn0.step)⟩
      · rw [if_neg c4] at H
        have c4b0 : decide (31 < a0) = false := decide_eq_false c4
        clear c4
        by_cases c5 : (Go.bits .and .i64 (wrap64 (a0)) 15) = 0
        · rw [if_pos c5] at H
          have c5b0 : ((Go.bits .and .i64 (wrap64 (a0)) 15) == 0) = true := beq_iff_eq.mpr c5
          have c5b1 : ((Go.bits .and .i64 (wrap64 (a0)) 15) != 0) = false := bne_eq_false_iff_eq.mpr c5
          clear c5
          have H' := Aside0.mk H
          clear H
          go_wp2
          go_meet
          case rel => exact ⟨_, (true), (by first | rfl | (simp; done) | (simp [*]; done)), H', ⟨by first | omega | exact Nat.le_refl _⟩, by repeat (first | exact Drawn0.refl _ | apply Drawn0.step)⟩
        · rw [if_neg c5] at H
          have c5b0 : ((Go.bits .and .i64 (wrap64 (a0)) 15) == 0) = false := beq_eq_false_iff_ne.mpr c5
          have c5b1 : ((Go.bits .and .i64 (wrap64 (a0)) 15) != 0) = true := bne_iff_ne.mpr c5
          have H' := Aside0.mk H
          clear H
          go_wp2
          go_meet
          case rel => exact ⟨_, (((Go.bits .and .i64 (wrap64 (a0)) 15) == 13)), (by first | rfl | (simp; done) | (simp [*]; done)), H', ⟨by first | omega | exact Nat.le_refl _⟩, by repeat (first | exact Drawn0.refl _ | apply Drawn0.step)⟩
  case rest =>
    clear HC2
    try clear c1
    try clear p2
    try clear c3
    try clear c3b0
    try clear c4
    try clear c4b0
    try clear c5
    try clear c5b0
    try clear c5b1
    obtain ⟨kq, x20_1, rfl, HA, HJ1, ⟨mc1, rfl⟩⟩ := hcut
    cases kq with
    | zero => exact absurd HA.out (by simp [piece_Kind.j0])
    | succ kj1 =>
      have H := HA.out
      clear HA
      simp only [piece_Kind.j0] at H
      by_cases c6 : x20_1 = true
      · subst c6
        have H1 : (if a0 = 8 then (some 8) else (if a0 = 24 then (some 8) else (some 0))) = some r := by rw [if_pos rfl] at H; exact H
        clear H
        have H := H1
        clear H1
        by_cases c7 : a0 = 8
        · rw [if_pos c7] at H
          have c7b0 : (a0 == 8) = true := beq_iff_eq.mpr c7
          have c7b1 : (a0 != 8) = false := bne_eq_false_iff_eq.mpr c7
          clear c7
          obtain rfl := Option.some.inj H
          go_wp2
          go_ret
          exact ⟨by first | rfl | (simp; done) | (simp [*]; done), by repeat (first | exact Drawn0.refl _ | apply Drawn0.step)⟩
        · rw [if_neg c7] at H
          have c7b0 : (a0 == 8) = false := beq_eq_false_iff_ne.mpr c7
          have c7b1 : (a0 != 8) = true := bne_iff_ne.mpr c7
          by_cases c8 : a0 = 24
          · rw [if_pos c8] at H
            have c8b0 : (a0 == 24) = true := beq_iff_eq.mpr c8
            have c8b1 : (a0 != 24) = false := bne_eq_false_iff_eq.mpr c8
            clear c8
            obtain rfl := Option.some.inj H
            go_wp2
            go_ret
            exact ⟨by first | rfl | (simp; done) | (simp [*]; done), by repeat (first | exact Drawn0.refl _ | apply Drawn0.step)⟩
          · rw [if_neg c8] at H
            have c8b0 : (a0 == 24) = false := beq_eq_false_iff_ne.mpr c8
            have c8b1 : (a0 != 24) = true := bne_iff_ne.mpr c8
            obtain rfl := Option.some.inj H
            go_wp2
            go_ret
            exact ⟨by first | rfl | (simp; done) | (simp [*]; done), by repeat (first | exact Drawn0.refl _ | apply Drawn0.step)⟩
      · replace c6 := Bool.eq_false_iff.mpr c6
        subst c6
        have H1 : (some (Go.bits .and .i64 (wrap64 (a0)) 15)) = some r := by rw [if_neg (show ¬ (false = true) by decide)] at H; exact H
        clear H
        have H := H1
        clear H1
        obtain rfl := Option.some.inj H
        go_wp2
        go_ret
        exact ⟨by first | rfl | (simp; done) | (simp [*]; done), by repeat (first | exact Drawn0.refl _ | apply Drawn0.step)⟩

/-! ### piece_Side: function 12 -/
def piece_Side.f (k : Nat) (a0 : Int) : Option (Int) := (piece_Kind.f k a0).bind fun t101 => (if t101 = 0 then (some (-1)) else (if a0 < 16 then (some 0) else (some 1)))
theorem piece_Side.mono : ∀ a0 k, LeO (piece_Side.f k a0) (piece_Side.f (k + 1) a0) := by
  intro a0 k
  unfold piece_Side.f
  repeat' first
      | (with_reducible exact piece_Kind.mono _ _)
      | (with_reducible exact LeO.refl _)
      | (with_reducible exact LeO.none _)
      | (with_reducible refine LeO.ite ?_ ?_)
      | (with_reducible refine LeO.bind ?_ (fun _ => ?_))
      | exact piece_Kind.mono _ _
      | exact LeO.none _
      | refine LeO.ite ?_ ?_
      | refine LeO.bind ?_ (fun _ => ?_)
set_option maxHeartbeats 8000000 in
set_option maxRecDepth 100000 in
theorem piece_Side.calls (k : Nat) (a0 : Int) (r : Int) (w : World) (h : piece_Side.f k a0 = some r) :
    Calls Try.prog 12 #[.int .i8 a0] w fun e w' => e = .returned (.int .i64 r) ∧ Drawn0 w w' := by
  have H : ((piece_Kind.f k a0).bind fun t101 => (if t101 = 0 then (some (-1)) else (if a0 < 16 then (some 0) else (some 1)))) = some r := h
  clear h
  replace H := Option.bind_eq_some_iff.mp H
  obtain ⟨t101, A20, H⟩ := H
  replace H : (if t101 = 0 then (some (-1)) else (if a0 < 16 then (some 0) else (some 1))) = some r := H
  have A2 := Aside0.mk A20
  clear A20
  by_cases c3 : t101 = 0
  · rw [if_pos c3] at H
    have c3b0 : (t101 == 0) = true := beq_iff_eq.mpr c3
    have c3b1 : (t101 != 0) = false := bne_eq_false_iff_eq.mpr c3
    clear c3
    obtain rfl := Option.some.inj H
    go_enter Try.func12, Try.ntmps12
    go_wp2_with (first | ((with_reducible refine gate_callee (f := 11) rfl ?_); refine goesL_ (some 5) rfl rfl Try.func11 (by kernel_rfl) rfl #[.int .i8 a0] rfl (by (try simp only [List.map_toArray, List.map_cons, List.map_nil]); first | done | rfl | (simp only [List.length_drop, List.length_take]; rfl)) ?_; (with_reducible refine (piece_Kind.calls k a0 t101 _ A2.out).mono ?_); rintro e w' ⟨rfl, ⟨nd, rfl⟩⟩; refine ⟨_, rfl, ?_⟩))
    go_ret
    exact ⟨by first | rfl | (simp; done) | (simp [*]; done), by repeat (first | exact Drawn0.refl _ | apply Drawn0.step)⟩
  · rw [if_neg c3] at H
    have c3b0 : (t101 == 0) = false := beq_eq_false_iff_ne.mpr c3
    have c3b1 : (t101 != 0) = true := bne_iff_ne.mpr c3
    by_cases c4 : a0 < 16
    · rw [if_pos c4] at H
      have c4b0 : decide (a0 < 16) = true := decide_eq_true c4
      clear c4
      obtain rfl := Option.some.inj H
      go_enter Try.func12, Try.ntmps12
      go_wp2_with (first | ((with_reducible refine gate_callee (f := 11) rfl ?_); refine goesL_ (some 5) rfl rfl Try.func11 (by kernel_rfl) rfl #[.int .i8 a0] rfl (by (try simp only [List.map_toArray, List.map_cons, List.map_nil]); first | done | rfl | (simp only [List.length_drop, List.length_take]; rfl)) ?_; (with_reducible refine (piece_Kind.calls k a0 t101 _ A2.out).mono ?_); rintro e w' ⟨rfl, ⟨nd, rfl⟩⟩; refine ⟨_, rfl, ?_⟩))
      go_ret
      exact ⟨by first | rfl | (simp; done) | (simp [*]; done), by repeat (first | exact Drawn0.refl _ | apply Drawn0.step)⟩
    · rw [if_neg c4] at H
      have c4b0 : decide (a0 < 16) = false := decide_eq_false c4
      clear c4
      obtain rfl := Option.some.inj H
      go_enter Try.func12, Try.ntmps12
      go_wp2_with (first | ((with_reducible refine gate_callee (f := 11) rfl ?_); refine goesL_ (some 5) rfl rfl Try.func11 (by kernel_rfl) rfl #[.int .i8 a0] rfl (by (try simp only [List.map_toArray, List.map_cons, List.map_nil]); first | done | rfl | (simp only [List.length_drop, List.length_take]; rfl)) ?_; (with_reducible refine (piece_Kind.calls k a0 t101 _ A2.out).mono ?_); rintro e w' ⟨rfl, ⟨nd, rfl⟩⟩; refine ⟨_, rfl, ?_⟩))
      go_ret
      exact ⟨by first | rfl | (simp; done) | (simp [*]; done), by repeat (first | exact Drawn0.refl _ | apply Drawn0.step)⟩

/-! ### piece_Of: function 17 -/
def piece_Of.f (a0 : Int) (a1 : Int) : Option (Int) := if a0 = 0 then (if a1 < 1 then (some 0) else (if a1 > 15 then (some 0) else (if a1 = 13 then (some 0) else (some (IntKind.i8.wrap (wrap64 ((wrap64 (16 * a0)) + a1))))))) else (if a0 = 1 then (if a1 < 1 then (some 0) else (if a1 > 15 then (some 0) else (if a1 = 13 then (some 0) else (some (IntKind.i8.wrap (wrap64 ((wrap64 (16 * a0)) + a1))))))) else (some 0))
set_option maxHeartbeats 8000000 in
set_option maxRecDepth 100000 in
theorem piece_Of.calls (a0 : Int) (a1 : Int) (r : Int) (w : World) (h : piece_Of.f a0 a1 = some r) :
    Calls Try.prog 17 #[.int .i64 a0, .int .i64 a1] w fun e w' => e = .returned (.int .i8 r) ∧ Drawn0 w w' := by
  have H : (if a0 = 0 then (if a1 < 1 then (some 0) else (if a1 > 15 then (some 0) else (if a1 = 13 then (some 0) else (some (IntKind.i8.wrap (wrap64 ((wrap64 (16 * a0)) + a1))))))) else (if a0 = 1 then (if a1 < 1 then (some 0) else (if a1 > 15 then (some 0) else (if a1 = 13 then (some 0) else (some (IntKind.i8.wrap (wrap64 ((wrap64 (16 * a0)) + a1))))))) else (some 0))) = some r := h
  clear h
  by_cases c3 : a0 = 0
  · rw [if_pos c3] at H
    have c3b0 : (a0 == 0) = true := beq_iff_eq.mpr c3
    have c3b1 : (a0 != 0) = false := bne_eq_false_iff_eq.mpr c3
    clear c3
    by_cases c4 : a1 < 1
    · rw [if_pos c4] at H
      have c4b0 : decide (a1 < 1) = true := decide_eq_true c4
      clear c4
      obtain rfl := Option.some.inj H
      go_enter Try.func17, Try.ntmps17
      go_wp2
      go_ret
      exact ⟨by first | rfl | (simp; done) | (simp [*]; done), by repeat (first | exact Drawn0.refl _ | apply Drawn0.step)⟩
    · rw [if_neg c4] at H
      have c4b0 : decide (a1 < 1) = false := decide_eq_false c4
      clear c4
      by_cases c5 : a1 > 15
      · rw [if_pos c5] at H
        have c5b0 : decide (15 < a1) = true := decide_eq_true c5
        clear c5
        obtain rfl := Option.some.inj H
        go_enter Try.func17, Try.ntmps17
        go_wp2
        go_ret
        exact ⟨by first | rfl | (simp; done) | (simp [*]; done), by repeat (first | exact Drawn0.refl _ | apply Drawn0.step)⟩
      · rw [if_neg c5] at H
        have c5b0 : decide (15 < a1) = false := decide_eq_false c5
        clear c5
        by_cases c6 : a1 = 13
        · rw [if_pos c6] at H
          have c6b0 : (a1 == 13) = true := beq_iff_eq.mpr c6
          have c6b1 : (a1 != 13) = false := bne_eq_false_iff_eq.mpr c6
          clear c6
          obtain rfl := Option.some.inj H
          go_enter Try.func17, Try.ntmps17
          go_wp2
          go_ret
          exact ⟨by first | rfl | (simp; done) | (simp [*]; done), by repeat (first | exact Drawn0.refl _ | apply Drawn0.step)⟩
        · rw [if_neg c6] at H
          have c6b0 : (a1 == 13) = false := beq_eq_false_iff_ne.mpr c6
          have c6b1 : (a1 != 13) = true := bne_iff_ne.mpr c6
          obtain rfl := Option.some.inj H
          go_enter Try.func17, Try.ntmps17
          go_wp2
          go_ret
          exact ⟨by first | rfl | (simp; done) | (simp [*]; done), by repeat (first | exact Drawn0.refl _ | apply Drawn0.step)⟩
  · rw [if_neg c3] at H
    have c3b0 : (a0 == 0) = false := beq_eq_false_iff_ne.mpr c3
    have c3b1 : (a0 != 0) = true := bne_iff_ne.mpr c3
    by_cases c7 : a0 = 1
    · rw [if_pos c7] at H
      have c7b0 : (a0 == 1) = true := beq_iff_eq.mpr c7
      have c7b1 : (a0 != 1) = false := bne_eq_false_iff_eq.mpr c7
      clear c7
      by_cases c8 : a1 < 1
      · rw [if_pos c8] at H
        have c8b0 : decide (a1 < 1) = true := decide_eq_true c8
        clear c8
        obtain rfl := Option.some.inj H
        go_enter Try.func17, Try.ntmps17
        go_wp2
        go_ret
        exact ⟨by first | rfl | (simp; done) | (simp [*]; done), by repeat (first | exact Drawn0.refl _ | apply Drawn0.step)⟩
      · rw [if_neg c8] at H
        have c8b0 : decide (a1 < 1) = false := decide_eq_false c8
        clear c8
        by_cases c9 : a1 > 15
        · rw [if_pos c9] at H
          have c9b0 : decide (15 < a1) = true := decide_eq_true c9
          clear c9
          obtain rfl := Option.some.inj H
          go_enter Try.func17, Try.ntmps17
          go_wp2
          go_ret
          exact ⟨by first | rfl | (simp; done) | (simp [*]; done), by repeat (first | exact Drawn0.refl _ | apply Drawn0.step)⟩
        · rw [if_neg c9] at H
          have c9b0 : decide (15 < a1) = false := decide_eq_false c9
          clear c9
          by_cases c10 : a1 = 13
          · rw [if_pos c10] at H
            have c10b0 : (a1 == 13) = true := beq_iff_eq.mpr c10
            have c10b1 : (a1 != 13) = false := bne_eq_false_iff_eq.mpr c10
            clear c10
            obtain rfl := Option.some.inj H
            go_enter Try.func17, Try.ntmps17
            go_wp2
            go_ret
            exact ⟨by first | rfl | (simp; done) | (simp [*]; done), by repeat (first | exact Drawn0.refl _ | apply Drawn0.step)⟩
          · rw [if_neg c10] at H
            have c10b0 : (a1 == 13) = false := beq_eq_false_iff_ne.mpr c10
            have c10b1 : (a1 != 13) = true := bne_iff_ne.mpr c10
            obtain rfl := Option.some.inj H
            go_enter Try.func17, Try.ntmps17
            go_wp2
            go_ret
            exact ⟨by first | rfl | (simp; done) | (simp [*]; done), by repeat (first | exact Drawn0.refl _ | apply Drawn0.step)⟩
    · rw [if_neg c7] at H
      have c7b0 : (a0 == 1) = false := beq_eq_false_iff_ne.mpr c7
      have c7b1 : (a0 != 1) = true := bne_iff_ne.mpr c7
      obtain rfl := Option.some.inj H
      go_enter Try.func17, Try.ntmps17
      go_wp2
      go_ret
      exact ⟨by first | rfl | (simp; done) | (simp [*]; done), by repeat (first | exact Drawn0.refl _ | apply Drawn0.step)⟩

/-! ### piece_Raw: function 18 -/
def piece_Raw.f (a0 : Int) : Option (Int) := (piece_Of.f 0 a0).bind fun t102 => (if t102 = 0 then (some 0) else (if a0 > 8 then (some (wrap64 (a0 - 8))) else (some a0)))
set_option maxHeartbeats 8000000 in
set_option maxRecDepth 100000 in
theorem piece_Raw.calls (a0 : Int) (r : Int) (w : World) (h : piece_Raw.f a0 = some r) :
    Calls Try.prog 18 #[.int .i64 a0] w fun e w' => e = .returned (.int .i64 r) ∧ Drawn0 w w' := by
  have H : ((piece_Of.f 0 a0).bind fun t102 => (if t102 = 0 then (some 0) else (if a0 > 8 then (some (wrap64 (a0 - 8))) else (some a0)))) = some r := h
  clear h
  replace H := Option.bind_eq_some_iff.mp H
  obtain ⟨t102, A20, H⟩ := H
  replace H : (if t102 = 0 then (some 0) else (if a0 > 8 then (some (wrap64 (a0 - 8))) else (some a0))) = some r := H
  have A2 := Aside0.mk A20
  clear A20
  by_cases c3 : t102 = 0
  · rw [if_pos c3] at H
    have c3b0 : (t102 == 0) = true := beq_iff_eq.mpr c3
    have c3b1 : (t102 != 0) = false := bne_eq_false_iff_eq.mpr c3
    clear c3
    obtain rfl := Option.some.inj H
    go_enter Try.func18, Try.ntmps18
    go_wp2_with (first | ((with_reducible refine gate_callee (f := 17) rfl ?_); refine goesL_ (some 5) rfl rfl Try.func17 (by kernel_rfl) rfl #[.int .i64 0, .int .i64 a0] rfl (by (try simp only [List.map_toArray, List.map_cons, List.map_nil]); first | done | rfl | (simp only [List.length_drop, List.length_take]; rfl)) ?_; (with_reducible refine (piece_Of.calls 0 a0 t102 _ A2.out).mono ?_); rintro e w' ⟨rfl, ⟨nd, rfl⟩⟩; refine ⟨_, rfl, ?_⟩))
    go_ret
    exact ⟨by first | rfl | (simp; done) | (simp [*]; done), by repeat (first | exact Drawn0.refl _ | apply Drawn0.step)⟩
  · rw [if_neg c3] at H
    have c3b0 : (t102 == 0) = false := beq_eq_false_iff_ne.mpr c3
    have c3b1 : (t102 != 0) = true := bne_iff_ne.mpr c3
    by_cases c4 : a0 > 8
    · rw [if_pos c4] at H
      have c4b0 : decide (8 < a0) = true := decide_eq_true c4
      clear c4
      obtain rfl := Option.some.inj H
      go_enter Try.func18, Try.ntmps18
      go_wp2_with (first | ((with_reducible refine gate_callee (f := 17) rfl ?_); refine goesL_ (some 5) rfl rfl Try.func17 (by kernel_rfl) rfl #[.int .i64 0, .int .i64 a0] rfl (by (try simp only [List.map_toArray, List.map_cons, List.map_nil]); first | done | rfl | (simp only [List.length_drop, List.length_take]; rfl)) ?_; (with_reducible refine (piece_Of.calls 0 a0 t102 _ A2.out).mono ?_); rintro e w' ⟨rfl, ⟨nd, rfl⟩⟩; refine ⟨_, rfl, ?_⟩))
      go_ret
      exact ⟨by first | rfl | (simp; done) | (simp [*]; done), by repeat (first | exact Drawn0.refl _ | apply Drawn0.step)⟩
    · rw [if_neg c4] at H
      have c4b0 : decide (8 < a0) = false := decide_eq_false c4
      clear c4
      obtain rfl := Option.some.inj H
      go_enter Try.func18, Try.ntmps18
      go_wp2_with (first | ((with_reducible refine gate_callee (f := 17) rfl ?_); refine goesL_ (some 5) rfl rfl Try.func17 (by kernel_rfl) rfl #[.int .i64 0, .int .i64 a0] rfl (by (try simp only [List.map_toArray, List.map_cons, List.map_nil]); first | done | rfl | (simp only [List.length_drop, List.length_take]; rfl)) ?_; (with_reducible refine (piece_Of.calls 0 a0 t102 _ A2.out).mono ?_); rintro e w' ⟨rfl, ⟨nd, rfl⟩⟩; refine ⟨_, rfl, ?_⟩))
      go_ret
      exact ⟨by first | rfl | (simp; done) | (simp [*]; done), by repeat (first | exact Drawn0.refl _ | apply Drawn0.step)⟩

/-! ### piece_Name: function 15 -/
def piece_Name.f (k : Nat) (a0 : Int) : Option (ByteArray) := (piece_Kind.f k a0).bind fun t103 => (if t103 = 0 then (some (⟨#[]⟩ : ByteArray)) else ((piece_Raw.f t103).bind fun t104 => (if 0 ≤ t104 then (if t104 < 9 then ((piece_Side.f k a0).bind fun t105 => (if t105 = 1 then (if t103 > 8 then (some (strOfNums (([43, ((bt (⟨#[32, 80, 76, 78, 83, 71, 66, 82, 75]⟩ : ByteArray) t104) + 32) % 256] : List Int)))) else (some (strOfNums (([((bt (⟨#[32, 80, 76, 78, 83, 71, 66, 82, 75]⟩ : ByteArray) t104) + 32) % 256] : List Int))))) else (if t103 > 8 then (some (strOfNums (([43, bt (⟨#[32, 80, 76, 78, 83, 71, 66, 82, 75]⟩ : ByteArray) t104] : List Int)))) else (some (strOfNums (([bt (⟨#[32, 80, 76, 78, 83, 71, 66, 82, 75]⟩ : ByteArray) t104] : List Int))))))) else (none)) else (none))))
theorem piece_Name.mono : ∀ a0 k, LeO (piece_Name.f k a0) (piece_Name.f (k + 1) a0) := by
  intro a0 k
  unfold piece_Name.f
  repeat' first
      | (with_reducible exact piece_Kind.mono _ _)
      | (with_reducible exact piece_Side.mono _ _)
      | (with_reducible exact LeO.refl _)
      | (with_reducible exact LeO.none _)
      | (with_reducible refine LeO.ite ?_ ?_)
      | (with_reducible refine LeO.bind ?_ (fun _ => ?_))
      | exact piece_Kind.mono _ _
      | exact piece_Side.mono _ _
      | exact LeO.none _
      | refine LeO.ite ?_ ?_
      | refine LeO.bind ?_ (fun _ => ?_)
set_option maxHeartbeats 8000000 in
set_option maxRecDepth 100000 in
theorem piece_Name.calls (k : Nat) (a0 : Int) (r : ByteArray) (w : World) (h : piece_Name.f k a0 = some r) :
    Calls Try.prog 15 #[.int .i8 a0] w fun e w' => e = .returned (.string r) ∧ Below w.heap.size w w' := by
  have HB := Aside0.mk (Below.refl w.heap.size w)
  have H : ((piece_Kind.f k a0).bind fun t103 => (if t103 = 0 then (some (⟨#[]⟩ : ByteArray)) else ((piece_Raw.f t103).bind fun t104 => (if 0 ≤ t104 then (if t104 < 9 then ((piece_Side.f k a0).bind fun t105 => (if t105 = 1 then (if t103 > 8 then (some (strOfNums (([43, ((bt (⟨#[32, 80, 76, 78, 83, 71, 66, 82, 75]⟩ : ByteArray) t104) + 32) % 256] : List Int)))) else (some (strOfNums (([((bt (⟨#[32, 80, 76, 78, 83, 71, 66, 82, 75]⟩ : ByteArray) t104) + 32) % 256] : List Int))))) else (if t103 > 8 then (some (strOfNums (([43, bt (⟨#[32, 80, 76, 78, 83, 71, 66, 82, 75]⟩ : ByteArray) t104] : List Int)))) else (some (strOfNums (([bt (⟨#[32, 80, 76, 78, 83, 71, 66, 82, 75]⟩ : ByteArray) t104] : List Int))))))) else (none)) else (none))))) = some r := h
  clear h
  replace H := Option.bind_eq_some_iff.mp H
  obtain ⟨t103, A20, H⟩ := H
  replace H : (if t103 = 0 then (some (⟨#[]⟩ : ByteArray)) else ((piece_Raw.f t103).bind fun t104 => (if 0 ≤ t104 then (if t104 < 9 then ((piece_Side.f k a0).bind fun t105 => (if t105 = 1 then (if t103 > 8 then (some (strOfNums (([43, ((bt (⟨#[32, 80, 76, 78, 83, 71, 66, 82, 75]⟩ : ByteArray) t104) + 32) % 256] : List Int)))) else (some (strOfNums (([((bt (⟨#[32, 80, 76, 78, 83, 71, 66, 82, 75]⟩ : ByteArray) t104) + 32) % 256] : List Int))))) else (if t103 > 8 then (some (strOfNums (([43, bt (⟨#[32, 80, 76, 78, 83, 71, 66, 82, 75]⟩ : ByteArray) t104] : List Int)))) else (some (strOfNums (([bt (⟨#[32, 80, 76, 78, 83, 71, 66, 82, 75]⟩ : ByteArray) t104] : List Int))))))) else (none)) else (none)))) = some r := H
  have A2 := Aside0.mk A20
  clear A20
  by_cases c3 : t103 = 0
  · rw [if_pos c3] at H
    have c3b0 : (t103 == 0) = true := beq_iff_eq.mpr c3
    have c3b1 : (t103 != 0) = false := bne_eq_false_iff_eq.mpr c3
    clear c3
    obtain rfl := Option.some.inj H
    go_enter Try.func15, Try.ntmps15
    go_wp2_with (first | ((with_reducible refine gate_callee (f := 11) rfl ?_); refine goesL_ (some 6) rfl rfl Try.func11 (by kernel_rfl) rfl #[.int .i8 a0] rfl (by (try simp only [List.map_toArray, List.map_cons, List.map_nil]); first | done | rfl | (simp only [List.length_drop, List.length_take]; rfl)) ?_; (with_reducible refine (piece_Kind.calls k a0 t103 _ A2.out).mono ?_); rintro e w' ⟨rfl, ⟨nd, rfl⟩⟩; refine ⟨_, rfl, ?_⟩))
    go_ret
    exact ⟨by first | rfl | (simp [errW_none, errW_some] <;> rfl) | (simp [*, errW_none, errW_some] <;> rfl) | (simp [*, errW_none, errW_some]; generalize ByteArray.toList _ = q_; cases q_ <;> rfl), by repeat (first | (with_reducible first | exact HB.out | apply below_alloc | apply pw_below_drewN | apply below_drew1) | exact HB.out)⟩
  · rw [if_neg c3] at H
    have c3b0 : (t103 == 0) = false := beq_eq_false_iff_ne.mpr c3
    have c3b1 : (t103 != 0) = true := bne_iff_ne.mpr c3
    replace H := Option.bind_eq_some_iff.mp H
    obtain ⟨t104, A40, H⟩ := H
    replace H : (if 0 ≤ t104 then (if t104 < 9 then ((piece_Side.f k a0).bind fun t105 => (if t105 = 1 then (if t103 > 8 then (some (strOfNums (([43, ((bt (⟨#[32, 80, 76, 78, 83, 71, 66, 82, 75]⟩ : ByteArray) t104) + 32) % 256] : List Int)))) else (some (strOfNums (([((bt (⟨#[32, 80, 76, 78, 83, 71, 66, 82, 75]⟩ : ByteArray) t104) + 32) % 256] : List Int))))) else (if t103 > 8 then (some (strOfNums (([43, bt (⟨#[32, 80, 76, 78, 83, 71, 66, 82, 75]⟩ : ByteArray) t104] : List Int)))) else (some (strOfNums (([bt (⟨#[32, 80, 76, 78, 83, 71, 66, 82, 75]⟩ : ByteArray) t104] : List Int))))))) else (none)) else (none)) = some r := H
    have A4 := Aside0.mk A40
    clear A40
    by_cases c5 : 0 ≤ t104
    · rw [if_pos c5] at H
      have c5b0 : decide (0 ≤ t104) = true := decide_eq_true c5
      clear c5
      by_cases c6 : t104 < 9
      · rw [if_pos c6] at H
        have c6b0 : decide (t104 < 9) = true := decide_eq_true c6
        clear c6
        replace H := Option.bind_eq_some_iff.mp H
        obtain ⟨t105, A80, H⟩ := H
        replace H : (if t105 = 1 then (if t103 > 8 then (some (strOfNums (([43, ((bt (⟨#[32, 80, 76, 78, 83, 71, 66, 82, 75]⟩ : ByteArray) t104) + 32) % 256] : List Int)))) else (some (strOfNums (([((bt (⟨#[32, 80, 76, 78, 83, 71, 66, 82, 75]⟩ : ByteArray) t104) + 32) % 256] : List Int))))) else (if t103 > 8 then (some (strOfNums (([43, bt (⟨#[32, 80, 76, 78, 83, 71, 66, 82, 75]⟩ : ByteArray) t104] : List Int)))) else (some (strOfNums (([bt (⟨#[32, 80, 76, 78, 83, 71, 66, 82, 75]⟩ : ByteArray) t104] : List Int)))))) = some r := H
        have A8 := Aside0.mk A80
        clear A80
        by_cases c9 : t105 = 1
        · rw [if_pos c9] at H
          have c9b0 : (t105 == 1) = true := beq_iff_eq.mpr c9
          have c9b1 : (t105 != 1) = false := bne_eq_false_iff_eq.mpr c9
          clear c9
          by_cases c10 : t103 > 8
          · rw [if_pos c10] at H
            have c10b0 : decide (8 < t103) = true := decide_eq_true c10
            clear c10
            obtain ⟨y106, hy106⟩ : ∃ y_ : List Int, y_ = (([43, ((bt (⟨#[32, 80, 76, 78, 83, 71, 66, 82, 75]⟩ : ByteArray) t104) + 32) % 256] : List Int)) := ⟨_, rfl⟩
            replace H : (some (strOfNums y106)) = some r := by first | (rw [hy106]; with_reducible exact H) | (have H2_ := (Option.bind_some _ _).symm.trans H; rw [hy106]; with_reducible exact H2_) | (have H2_ := (Option.bind_some _ _).symm.trans H; with_reducible exact H2_) | with_reducible exact H | (rw [hy106]; exact H) | exact H
            have Ny106 := Aside0.mk hy106
            clear hy106
            obtain rfl := Option.some.inj H
            go_enter Try.func15, Try.ntmps15
            go_wp2_with (first | ((with_reducible refine gate_callee (f := 11) rfl ?_); refine goesL_ (some 6) rfl rfl Try.func11 (by kernel_rfl) rfl #[.int .i8 a0] rfl (by (try simp only [List.map_toArray, List.map_cons, List.map_nil]); first | done | rfl | (simp only [List.length_drop, List.length_take]; rfl)) ?_; (with_reducible refine (piece_Kind.calls k a0 t103 _ A2.out).mono ?_); rintro e w' ⟨rfl, ⟨nd, rfl⟩⟩; refine ⟨_, rfl, ?_⟩) | ((with_reducible refine gate_callee (f := 18) rfl ?_); refine goesL_ (some 10) rfl rfl Try.func18 (by kernel_rfl) rfl #[.int .i64 t103] rfl (by (try simp only [List.map_toArray, List.map_cons, List.map_nil]); first | done | rfl | (simp only [List.length_drop, List.length_take]; rfl)) ?_; (with_reducible refine (piece_Raw.calls t103 t104 _ A4.out).mono ?_); rintro e w' ⟨rfl, ⟨nd, rfl⟩⟩; refine ⟨_, rfl, ?_⟩; have p7 : 0 ≤ (t104 : Int) := of_decide_eq_true (by first | (with_reducible assumption) | assumption); have q7 : t104 < (9 : Int) := of_decide_eq_true (by first | (with_reducible assumption) | assumption); have hx7 := bt_at (⟨#[32, 80, 76, 78, 83, 71, 66, 82, 75]⟩ : ByteArray) t104; replace p7 := eq_true p7; replace q7 := eq_true q7) | ((with_reducible refine gate_callee (f := 12) rfl ?_); refine goesL_ (some 13) rfl rfl Try.func12 (by kernel_rfl) rfl #[.int .i8 a0] rfl (by (try simp only [List.map_toArray, List.map_cons, List.map_nil]); first | done | rfl | (simp only [List.length_drop, List.length_take]; rfl)) ?_; (with_reducible refine (piece_Side.calls k a0 t105 _ A8.out).mono ?_); rintro e w' ⟨rfl, ⟨nd, rfl⟩⟩; refine ⟨_, rfl, ?_⟩) | ((with_reducible refine gate_dst (N := 20) rfl ?_); refine Kd.R_lit (Kd.int .u8) _ 5 ?hg (N := 20) ?hd (xs := ([43, ((bt (⟨#[32, 80, 76, 78, 83, 71, 66, 82, 75]⟩ : ByteArray) t104) + 32) % 256] : List Int)) (inner := [.int .u8 43, .int .u8 (((bt (⟨#[32, 80, 76, 78, 83, 71, 66, 82, 75]⟩ : ByteArray) t104) + 32) % 256)]) (ok := fun _ => True) (okp := fun _ => True) ?hr ?hp (fun _ hk => hk) trivial (Below.refl _ _) (Nat.le_refl _) (by simp) ?_; (case hd => rfl); (case hg => rfl); (case hr => first | (go_simp; done) | (go_simp; rfl)); (case hp => exact (Reps.one (show Kd.M (Kd.int .u8) _ _ _ 43 [.int .u8 43] from rfl) (Reps.one (show Kd.M (Kd.int .u8) _ _ _ (((bt (⟨#[32, 80, 76, 78, 83, 71, 66, 82, 75]⟩ : ByteArray) t104) + 32) % 256) [.int .u8 (((bt (⟨#[32, 80, 76, 78, 83, 71, 66, 82, 75]⟩ : ByteArray) t104) + 32) % 256)] from rfl) (Reps.none _ _)))); intro v107 w11 ho12 hb hg_ hnew_; clear hg_ hnew_; (first | rw [← Ny106.out] at ho12 | (simp only [Int.reduceToNat] at ho12; rw [← Ny106.out] at ho12)); have n0_ := Aside0.mk (Kd.R_lower ho12 (below_size (by repeat (first | (with_reducible first | exact HB.out | apply below_alloc | apply pw_below_drewN | apply below_drew1) | exact HB.out)))); have n1_ := Aside0.mk (below_step (by repeat (first | (with_reducible first | exact HB.out | apply below_alloc | apply pw_below_drewN | apply below_drew1) | exact HB.out)) hb); clear HB; have HO108 := n0_; have HB := n1_; clear n0_ n1_; clear hb ho12; have hcv13 := own_string (P := Try.prog) Try.underlying41 Try.underlying5 Try.underlying9 (Kd.own_of_R HO108.out)))
            go_ret
            exact ⟨by first | rfl | (simp [errW_none, errW_some] <;> rfl) | (simp [*, errW_none, errW_some] <;> rfl) | (simp [*, errW_none, errW_some]; generalize ByteArray.toList _ = q_; cases q_ <;> rfl), by repeat (first | (with_reducible first | exact HB.out | apply below_alloc | apply pw_below_drewN | apply below_drew1) | exact HB.out)⟩
          · rw [if_neg c10] at H
            have c10b0 : decide (8 < t103) = false := decide_eq_false c10
            clear c10
            obtain ⟨y109, hy109⟩ : ∃ y_ : List Int, y_ = (([((bt (⟨#[32, 80, 76, 78, 83, 71, 66, 82, 75]⟩ : ByteArray) t104) + 32) % 256] : List Int)) := ⟨_, rfl⟩
            replace H : (some (strOfNums y109)) = some r := by first | (rw [hy109]; with_reducible exact H) | (have H2_ := (Option.bind_some _ _).symm.trans H; rw [hy109]; with_reducible exact H2_) | (have H2_ := (Option.bind_some _ _).symm.trans H; with_reducible exact H2_) | with_reducible exact H | (rw [hy109]; exact H) | exact H
            have Ny109 := Aside0.mk hy109
            clear hy109
            obtain rfl := Option.some.inj H
            go_enter Try.func15, Try.ntmps15
            go_wp2_with (first | ((with_reducible refine gate_callee (f := 11) rfl ?_); refine goesL_ (some 6) rfl rfl Try.func11 (by kernel_rfl) rfl #[.int .i8 a0] rfl (by (try simp only [List.map_toArray, List.map_cons, List.map_nil]); first | done | rfl | (simp only [List.length_drop, List.length_take]; rfl)) ?_; (with_reducible refine (piece_Kind.calls k a0 t103 _ A2.out).mono ?_); rintro e w' ⟨rfl, ⟨nd, rfl⟩⟩; refine ⟨_, rfl, ?_⟩) | ((with_reducible refine gate_callee (f := 18) rfl ?_); refine goesL_ (some 10) rfl rfl Try.func18 (by kernel_rfl) rfl #[.int .i64 t103] rfl (by (try simp only [List.map_toArray, List.map_cons, List.map_nil]); first | done | rfl | (simp only [List.length_drop, List.length_take]; rfl)) ?_; (with_reducible refine (piece_Raw.calls t103 t104 _ A4.out).mono ?_); rintro e w' ⟨rfl, ⟨nd, rfl⟩⟩; refine ⟨_, rfl, ?_⟩; have p7 : 0 ≤ (t104 : Int) := of_decide_eq_true (by first | (with_reducible assumption) | assumption); have q7 : t104 < (9 : Int) := of_decide_eq_true (by first | (with_reducible assumption) | assumption); have hx7 := bt_at (⟨#[32, 80, 76, 78, 83, 71, 66, 82, 75]⟩ : ByteArray) t104; replace p7 := eq_true p7; replace q7 := eq_true q7) | ((with_reducible refine gate_callee (f := 12) rfl ?_); refine goesL_ (some 13) rfl rfl Try.func12 (by kernel_rfl) rfl #[.int .i8 a0] rfl (by (try simp only [List.map_toArray, List.map_cons, List.map_nil]); first | done | rfl | (simp only [List.length_drop, List.length_take]; rfl)) ?_; (with_reducible refine (piece_Side.calls k a0 t105 _ A8.out).mono ?_); rintro e w' ⟨rfl, ⟨nd, rfl⟩⟩; refine ⟨_, rfl, ?_⟩) | ((with_reducible refine gate_dst (N := 23) rfl ?_); refine Kd.R_lit (Kd.int .u8) _ 5 ?hg (N := 23) ?hd (xs := ([((bt (⟨#[32, 80, 76, 78, 83, 71, 66, 82, 75]⟩ : ByteArray) t104) + 32) % 256] : List Int)) (inner := [.int .u8 (((bt (⟨#[32, 80, 76, 78, 83, 71, 66, 82, 75]⟩ : ByteArray) t104) + 32) % 256)]) (ok := fun _ => True) (okp := fun _ => True) ?hr ?hp (fun _ hk => hk) trivial (Below.refl _ _) (Nat.le_refl _) (by simp) ?_; (case hd => rfl); (case hg => rfl); (case hr => first | (go_simp; done) | (go_simp; rfl)); (case hp => exact (Reps.one (show Kd.M (Kd.int .u8) _ _ _ (((bt (⟨#[32, 80, 76, 78, 83, 71, 66, 82, 75]⟩ : ByteArray) t104) + 32) % 256) [.int .u8 (((bt (⟨#[32, 80, 76, 78, 83, 71, 66, 82, 75]⟩ : ByteArray) t104) + 32) % 256)] from rfl) (Reps.none _ _))); intro v110 w14 ho15 hb hg_ hnew_; clear hg_ hnew_; (first | rw [← Ny109.out] at ho15 | (simp only [Int.reduceToNat] at ho15; rw [← Ny109.out] at ho15)); have n0_ := Aside0.mk (Kd.R_lower ho15 (below_size (by repeat (first | (with_reducible first | exact HB.out | apply below_alloc | apply pw_below_drewN | apply below_drew1) | exact HB.out)))); have n1_ := Aside0.mk (below_step (by repeat (first | (with_reducible first | exact HB.out | apply below_alloc | apply pw_below_drewN | apply below_drew1) | exact HB.out)) hb); clear HB; have HO111 := n0_; have HB := n1_; clear n0_ n1_; clear hb ho15; have hcv16 := own_string (P := Try.prog) Try.underlying41 Try.underlying5 Try.underlying9 (Kd.own_of_R HO111.out)))
            go_ret
            exact ⟨by first | rfl | (simp [errW_none, errW_some] <;> rfl) | (simp [*, errW_none, errW_some] <;> rfl) | (simp [*, errW_none, errW_some]; generalize ByteArray.toList _ = q_; cases q_ <;> rfl), by repeat (first | (with_reducible first | exact HB.out | apply below_alloc | apply pw_below_drewN | apply below_drew1) | exact HB.out)⟩
        · rw [if_neg c9] at H
          have c9b0 : (t105 == 1) = false := beq_eq_false_iff_ne.mpr c9
          have c9b1 : (t105 != 1) = true := bne_iff_ne.mpr c9
          by_cases c17 : t103 > 8
          · rw [if_pos c17] at H
            have c17b0 : decide (8 < t103) = true := decide_eq_true c17
            clear c17
            obtain ⟨y112, hy112⟩ : ∃ y_ : List Int, y_ = (([43, bt (⟨#[32, 80, 76, 78, 83, 71, 66, 82, 75]⟩ : ByteArray) t104] : List Int)) := ⟨_, rfl⟩
            replace H : (some (strOfNums y112)) = some r := by first | (rw [hy112]; with_reducible exact H) | (have H2_ := (Option.bind_some _ _).symm.trans H; rw [hy112]; with_reducible exact H2_) | (have H2_ := (Option.bind_some _ _).symm.trans H; with_reducible exact H2_) | with_reducible exact H | (rw [hy112]; exact H) | exact H
            have Ny112 := Aside0.mk hy112
            clear hy112
            obtain rfl := Option.some.inj H
            go_enter Try.func15, Try.ntmps15
            go_wp2_with (first | ((with_reducible refine gate_callee (f := 11) rfl ?_); refine goesL_ (some 6) rfl rfl Try.func11 (by kernel_rfl) rfl #[.int .i8 a0] rfl (by (try simp only [List.map_toArray, List.map_cons, List.map_nil]); first | done | rfl | (simp only [List.length_drop, List.length_take]; rfl)) ?_; (with_reducible refine (piece_Kind.calls k a0 t103 _ A2.out).mono ?_); rintro e w' ⟨rfl, ⟨nd, rfl⟩⟩; refine ⟨_, rfl, ?_⟩) | ((with_reducible refine gate_callee (f := 18) rfl ?_); refine goesL_ (some 10) rfl rfl Try.func18 (by kernel_rfl) rfl #[.int .i64 t103] rfl (by (try simp only [List.map_toArray, List.map_cons, List.map_nil]); first | done | rfl | (simp only [List.length_drop, List.length_take]; rfl)) ?_; (with_reducible refine (piece_Raw.calls t103 t104 _ A4.out).mono ?_); rintro e w' ⟨rfl, ⟨nd, rfl⟩⟩; refine ⟨_, rfl, ?_⟩; have p7 : 0 ≤ (t104 : Int) := of_decide_eq_true (by first | (with_reducible assumption) | assumption); have q7 : t104 < (9 : Int) := of_decide_eq_true (by first | (with_reducible assumption) | assumption); have hx7 := bt_at (⟨#[32, 80, 76, 78, 83, 71, 66, 82, 75]⟩ : ByteArray) t104; replace p7 := eq_true p7; replace q7 := eq_true q7) | ((with_reducible refine gate_callee (f := 12) rfl ?_); refine goesL_ (some 13) rfl rfl Try.func12 (by kernel_rfl) rfl #[.int .i8 a0] rfl (by (try simp only [List.map_toArray, List.map_cons, List.map_nil]); first | done | rfl | (simp only [List.length_drop, List.length_take]; rfl)) ?_; (with_reducible refine (piece_Side.calls k a0 t105 _ A8.out).mono ?_); rintro e w' ⟨rfl, ⟨nd, rfl⟩⟩; refine ⟨_, rfl, ?_⟩) | ((with_reducible refine gate_dst (N := 20) rfl ?_); refine Kd.R_lit (Kd.int .u8) _ 5 ?hg (N := 20) ?hd (xs := ([43, bt (⟨#[32, 80, 76, 78, 83, 71, 66, 82, 75]⟩ : ByteArray) t104] : List Int)) (inner := [.int .u8 43, .int .u8 (bt (⟨#[32, 80, 76, 78, 83, 71, 66, 82, 75]⟩ : ByteArray) t104)]) (ok := fun _ => True) (okp := fun _ => True) ?hr ?hp (fun _ hk => hk) trivial (Below.refl _ _) (Nat.le_refl _) (by simp) ?_; (case hd => rfl); (case hg => rfl); (case hr => first | (go_simp; done) | (go_simp; rfl)); (case hp => exact (Reps.one (show Kd.M (Kd.int .u8) _ _ _ 43 [.int .u8 43] from rfl) (Reps.one (show Kd.M (Kd.int .u8) _ _ _ (bt (⟨#[32, 80, 76, 78, 83, 71, 66, 82, 75]⟩ : ByteArray) t104) [.int .u8 (bt (⟨#[32, 80, 76, 78, 83, 71, 66, 82, 75]⟩ : ByteArray) t104)] from rfl) (Reps.none _ _)))); intro v113 w18 ho19 hb hg_ hnew_; clear hg_ hnew_; (first | rw [← Ny112.out] at ho19 | (simp only [Int.reduceToNat] at ho19; rw [← Ny112.out] at ho19)); have n0_ := Aside0.mk (Kd.R_lower ho19 (below_size (by repeat (first | (with_reducible first | exact HB.out | apply below_alloc | apply pw_below_drewN | apply below_drew1) | exact HB.out)))); have n1_ := Aside0.mk (below_step (by repeat (first | (with_reducible first | exact HB.out | apply below_alloc | apply pw_below_drewN | apply below_drew1) | exact HB.out)) hb); clear HB; have HO114 := n0_; have HB := n1_; clear n0_ n1_; clear hb ho19; have hcv20 := own_string (P := Try.prog) Try.underlying41 Try.underlying5 Try.underlying9 (Kd.own_of_R HO114.out)))
            go_ret
            exact ⟨by first | rfl | (simp [errW_none, errW_some] <;> rfl) | (simp [*, errW_none, errW_some] <;> rfl) | (simp [*, errW_none, errW_some]; generalize ByteArray.toList _ = q_; cases q_ <;> rfl), by repeat (first | (with_reducible first | exact HB.out | apply below_alloc | apply pw_below_drewN | apply below_drew1) | exact HB.out)⟩
          · rw [if_neg c17] at H
            have c17b0 : decide (8 < t103) = false := decide_eq_false c17
            clear c17
            obtain ⟨y115, hy115⟩ : ∃ y_ : List Int, y_ = (([bt (⟨#[32, 80, 76, 78, 83, 71, 66, 82, 75]⟩ : ByteArray) t104] : List Int)) := ⟨_, rfl⟩
            replace H : (some (strOfNums y115)) = some r := by first | (rw [hy115]; with_reducible exact H) | (have H2_ := (Option.bind_some _ _).symm.trans H; rw [hy115]; with_reducible exact H2_) | (have H2_ := (Option.bind_some _ _).symm.trans H; with_reducible exact H2_) | with_reducible exact H | (rw [hy115]; exact H) | exact H
            have Ny115 := Aside0.mk hy115
            clear hy115
            obtain rfl := Option.some.inj H
            go_enter Try.func15, Try.ntmps15
            go_wp2_with (first | ((with_reducible refine gate_callee (f := 11) rfl ?_); refine goesL_ (some 6) rfl rfl Try.func11 (by kernel_rfl) rfl #[.int .i8 a0] rfl (by (try simp only [List.map_toArray, List.map_cons, List.map_nil]); first | done | rfl | (simp only [List.length_drop, List.length_take]; rfl)) ?_; (with_reducible refine (piece_Kind.calls k a0 t103 _ A2.out).mono ?_); rintro e w' ⟨rfl, ⟨nd, rfl⟩⟩; refine ⟨_, rfl, ?_⟩) | ((with_reducible refine gate_callee (f := 18) rfl ?_); refine goesL_ (some 10) rfl rfl Try.func18 (by kernel_rfl) rfl #[.int .i64 t103] rfl (by (try simp only [List.map_toArray, List.map_cons, List.map_nil]); first | done | rfl | (simp only [List.length_drop, List.length_take]; rfl)) ?_; (with_reducible refine (piece_Raw.calls t103 t104 _ A4.out).mono ?_); rintro e w' ⟨rfl, ⟨nd, rfl⟩⟩; refine ⟨_, rfl, ?_⟩; have p7 : 0 ≤ (t104 : Int) := of_decide_eq_true (by first | (with_reducible assumption) | assumption); have q7 : t104 < (9 : Int) := of_decide_eq_true (by first | (with_reducible assumption) | assumption); have hx7 := bt_at (⟨#[32, 80, 76, 78, 83, 71, 66, 82, 75]⟩ : ByteArray) t104; replace p7 := eq_true p7; replace q7 := eq_true q7) | ((with_reducible refine gate_callee (f := 12) rfl ?_); refine goesL_ (some 13) rfl rfl Try.func12 (by kernel_rfl) rfl #[.int .i8 a0] rfl (by (try simp only [List.map_toArray, List.map_cons, List.map_nil]); first | done | rfl | (simp only [List.length_drop, List.length_take]; rfl)) ?_; (with_reducible refine (piece_Side.calls k a0 t105 _ A8.out).mono ?_); rintro e w' ⟨rfl, ⟨nd, rfl⟩⟩; refine ⟨_, rfl, ?_⟩) | ((with_reducible refine gate_dst (N := 23) rfl ?_); refine Kd.R_lit (Kd.int .u8) _ 5 ?hg (N := 23) ?hd (xs := ([bt (⟨#[32, 80, 76, 78, 83, 71, 66, 82, 75]⟩ : ByteArray) t104] : List Int)) (inner := [.int .u8 (bt (⟨#[32, 80, 76, 78, 83, 71, 66, 82, 75]⟩ : ByteArray) t104)]) (ok := fun _ => True) (okp := fun _ => True) ?hr ?hp (fun _ hk => hk) trivial (Below.refl _ _) (Nat.le_refl _) (by simp) ?_; (case hd => rfl); (case hg => rfl); (case hr => first | (go_simp; done) | (go_simp; rfl)); (case hp => exact (Reps.one (show Kd.M (Kd.int .u8) _ _ _ (bt (⟨#[32, 80, 76, 78, 83, 71, 66, 82, 75]⟩ : ByteArray) t104) [.int .u8 (bt (⟨#[32, 80, 76, 78, 83, 71, 66, 82, 75]⟩ : ByteArray) t104)] from rfl) (Reps.none _ _))); intro v116 w21 ho22 hb hg_ hnew_; clear hg_ hnew_; (first | rw [← Ny115.out] at ho22 | (simp only [Int.reduceToNat] at ho22; rw [← Ny115.out] at ho22)); have n0_ := Aside0.mk (Kd.R_lower ho22 (below_size (by repeat (first | (with_reducible first | exact HB.out | apply below_alloc | apply pw_below_drewN | apply below_drew1) | exact HB.out)))); have n1_ := Aside0.mk (below_step (by repeat (first | (with_reducible first | exact HB.out | apply below_alloc | apply pw_below_drewN | apply below_drew1) | exact HB.out)) hb); clear HB; have HO117 := n0_; have HB := n1_; clear n0_ n1_; clear hb ho22; have hcv23 := own_string (P := Try.prog) Try.underlying41 Try.underlying5 Try.underlying9 (Kd.own_of_R HO117.out)))
            go_ret
            exact ⟨by first | rfl | (simp [errW_none, errW_some] <;> rfl) | (simp [*, errW_none, errW_some] <;> rfl) | (simp [*, errW_none, errW_some]; generalize ByteArray.toList _ = q_; cases q_ <;> rfl), by repeat (first | (with_reducible first | exact HB.out | apply below_alloc | apply pw_below_drewN | apply below_drew1) | exact HB.out)⟩
      · rw [if_neg c6] at H
        exact absurd H (by simp)
    · rw [if_neg c5] at H
      exact absurd H (by simp)

/-! ### piece_Sign: function 20 -/
def piece_Sign.str : ByteArray := ⟨#[227, 131, 187, 230, 173, 169, 233, 166, 153, 230, 161, 130, 233, 138, 128, 233, 135, 145, 232, 167, 146, 233, 163, 155, 231, 142, 137, 227, 129, 168, 230, 157, 143, 229, 156, 173, 229, 133, 168, 227, 131, 187, 233, 166, 172, 233, 190, 141]⟩
def piece_Sign.tab : List Nat := [12539, 27497, 39321, 26690, 37504, 37329, 35282, 39131, 29577, 12392, 26447, 22317, 20840, 12539, 39340, 40845]
def piece_Sign.val (a0 : Int) : Int := if 1 ≤ a0 ∧ a0 ≤ 15 ∧ a0 ≠ 13 then ((piece_Sign.tab.getD a0.toNat 0 : Nat) : Int) else 0
def piece_Sign.f (a0 : Int) : Option Int := some (piece_Sign.val a0)
theorem piece_Sign.dec : ∀ j, j < 16 → Utf8.decode piece_Sign.str (3 * j) = (piece_Sign.tab.getD j 0, 3) ∧ piece_Sign.tab.getD j 0 < 50000 ∧ (piece_Sign.tab.getD j 0 = 12539 ↔ j = 0 ∨ j = 13) := by decide +kernel
theorem piece_Sign.valHit (j : Nat) (hj : j < 16) (h : piece_Sign.tab.getD j 0 ≠ 12539) : piece_Sign.val (j : Int) = ((piece_Sign.tab.getD j 0 : Nat) : Int) := by
  have hd := (piece_Sign.dec j hj).2.2
  unfold piece_Sign.val
  rw [if_pos (by omega)]; rfl
theorem piece_Sign.valOut (a0 : Int) (h : ∀ q : Nat, q < 16 → a0 = (q : Int) → piece_Sign.tab.getD q 0 = 12539) : piece_Sign.val a0 = 0 := by
  unfold piece_Sign.val
  refine if_neg fun hc => ?_
  have hd := (piece_Sign.dec a0.toNat (by omega)).2.2
  have := h a0.toNat (by omega) (by omega)
  omega
theorem piece_Sign.calls (a0 : Int) (r : Int) (w : World) (h : piece_Sign.f a0 = some r) :
    Calls Try.prog 20 #[.int .i64 a0] w fun e w' => e = .returned (.int .i32 r) ∧ Below w.heap.size w w' := by
  obtain rfl := Option.some.inj h; clear h
  go_enter Try.func20, Try.ntmps20
  go_wp2
  go_loopg [3] 17 (fun gf s3 wx => ∃ j : Nat, s3 = .int .i64 j ∧ j ≤ 16 ∧ wx.heap[w.heap.size]? = some (.stringIter piece_Sign.str (3 * j)) ∧ Below w.heap.size w wx ∧ Hid (∀ q : Nat, q < j → a0 = (q : Int) → piece_Sign.tab.getD q 0 = 12539) ∧ 16 ≤ j + gf)
  case atStart => exact ⟨0, rfl, by omega, World.iter_heap w piece_Sign.str 0, (Below.refl _ w).alloc (Nat.le_refl _) _, Lib.hid (fun q hq => absurd hq (by omega)), by omega⟩
  case round =>
    obtain ⟨j, rfl, hj, hit, hbw, hall, hfu⟩ := hrel
    by_cases hps : j < 16
    · obtain ⟨g', rfl⟩ : ∃ g', gk = g' + 1 := ⟨gk - 1, by omega⟩
      have hnx : ∀ ty, (Instr.next (.pointer (some ⟨w.heap.size, 0, none⟩)) true ty).run Try.prog wr = _ := fun ty => Lib.run_next_any_at wr w.heap.size piece_Sign.str (3 * j) ty hit (by show 3 * j < 48; omega)
      obtain ⟨hdc, hlt, h13⟩ := piece_Sign.dec j hps
      have hV := piece_Sign.valHit j hps
      rw [hdc] at hnx
      have hit2 := Lib.iterAt_heap wr w.heap.size piece_Sign.str (3 * j) (3 * j + 3) hit
      have hbw2 := Lib.below_iterAt hbw (k := w.heap.size) (Nat.le_refl _) piece_Sign.str (3 * j + 3)
      obtain ⟨W, hWd⟩ : ∃ W, wr.iterAt w.heap.size piece_Sign.str (3 * j + 3) = W := ⟨_, rfl⟩
      rw [hWd] at hnx hit2 hbw2
      obtain ⟨R, hR⟩ : ∃ R, piece_Sign.tab.getD j 0 = R := ⟨_, rfl⟩
      rw [hR] at hnx h13 hV hlt
      by_cases hk : a0 = (j : Int)
      · by_cases hr : R = 12539
        · have b1 : (((j : Int)) == a0) = true := by rw [beq_iff_eq]; exact hk.symm
          have b2 : ((R : Int) != 12539) = false := by rw [hr]; rfl
          have HR := Lib.hid hR; clear hR hV
          have HK := Lib.hid hk; clear hk
          have Hr := Lib.hid hr; clear hr
          have H13 := Lib.hid h13; clear h13
          have HW := Lib.hid hWd; clear hWd
          have HD := Lib.hid hdc; clear hdc
          go_wp2
          go_roundg g'
          case measure => omega
          case rel => exact ⟨j + 1, by go_num, by omega, hit2, hbw2, Lib.hid (fun q hq he => by
            rcases Nat.lt_succ_iff_lt_or_eq.1 hq with h | h
            · exact hall.out q h he
            · rw [h]; exact HR.out.trans Hr.out), by omega⟩
        · have b1 : (((j : Int)) == a0) = true := by rw [beq_iff_eq]; exact hk.symm
          have b2 : ((R : Int) != 12539) = true := by rw [bne_iff_ne]; omega
          have HV := Lib.hid (hV hr); clear hV
          have HR := Lib.hid hR; clear hR
          have HK := Lib.hid hk; clear hk
          have Hr := Lib.hid hr; clear hr
          have H13 := Lib.hid h13; clear h13
          have HW := Lib.hid hWd; clear hWd
          have HD := Lib.hid hdc; clear hdc
          go_wp2
          go_ret
          exact ⟨by rw [HK.out, HV.out]; rfl, hbw2⟩
      · have b1 : (((j : Int)) == a0) = false := by rw [beq_eq_false_iff_ne]; exact fun h => hk h.symm
        have HR := Lib.hid hR; clear hR hV
        have HK := Lib.hid hk; clear hk
        have H13 := Lib.hid h13; clear h13
        have HW := Lib.hid hWd; clear hWd
        have HD := Lib.hid hdc; clear hdc
        go_wp2
        go_roundg g'
        case measure => omega
        case rel => exact ⟨j + 1, by go_num, by omega, hit2, hbw2, Lib.hid (fun q hq he => by
          rcases Nat.lt_succ_iff_lt_or_eq.1 hq with h | h
          · exact hall.out q h he
          · exact absurd (he.trans (by rw [h])) HK.out), by omega⟩
    · obtain rfl : j = 16 := by omega
      have hnx : ∀ ty, (Instr.next (.pointer (some ⟨w.heap.size, 0, none⟩)) true ty).run Try.prog wr = _ := fun ty => Lib.run_next_end_at wr w.heap.size piece_Sign.str (3 * 16) ty hit (by show ¬ (48 < 48); omega)
      go_wp2
      go_ret
      exact ⟨by rw [piece_Sign.valOut a0 hall.out]; rfl, hbw⟩

/-! ### kakugyolaw02_names: function 10 -/
def kakugyolaw02_names.f (k : Nat)  : Option (Bool) := (piece_Name.f k 1).bind fun t118 => (if t118.toList = ([80] : List UInt8) then ((piece_Name.f k 17).bind fun t119 => (if t119.toList = ([112] : List UInt8) then ((piece_Of.f 1 15).bind fun t120 => (if t120 = 31 then ((piece_Sign.f 1).bind fun t121 => (some (t121 == 27497))) else (some false))) else (some false))) else (some false))
theorem kakugyolaw02_names.mono : ∀ k, LeO (kakugyolaw02_names.f k ) (kakugyolaw02_names.f (k + 1) ) := by
  intro  k
  unfold kakugyolaw02_names.f
  repeat' first
      | (with_reducible exact piece_Name.mono _ _)
      | (with_reducible exact LeO.refl _)
      | (with_reducible exact LeO.none _)
      | (with_reducible refine LeO.ite ?_ ?_)
      | (with_reducible refine LeO.bind ?_ (fun _ => ?_))
      | exact piece_Name.mono _ _
      | exact LeO.none _
      | refine LeO.ite ?_ ?_
      | refine LeO.bind ?_ (fun _ => ?_)
set_option maxHeartbeats 8000000 in
set_option maxRecDepth 100000 in
theorem kakugyolaw02_names.calls (k : Nat)  (r : Bool) (w : World) (h : kakugyolaw02_names.f k  = some r) :
    Calls Try.prog 10 #[] w fun e w' => e = .returned (.bool r) ∧ Below w.heap.size w w' := by
  have HB := Aside0.mk (Below.refl w.heap.size w)
  have H : ((piece_Name.f k 1).bind fun t118 => (if t118.toList = ([80] : List UInt8) then ((piece_Name.f k 17).bind fun t119 => (if t119.toList = ([112] : List UInt8) then ((piece_Of.f 1 15).bind fun t120 => (if t120 = 31 then ((piece_Sign.f 1).bind fun t121 => (some (t121 == 27497))) else (some false))) else (some false))) else (some false))) = some r := h
  clear h
  replace H := Option.bind_eq_some_iff.mp H
  obtain ⟨t118, A10, H⟩ := H
  replace H : (if t118.toList = ([80] : List UInt8) then ((piece_Name.f k 17).bind fun t119 => (if t119.toList = ([112] : List UInt8) then ((piece_Of.f 1 15).bind fun t120 => (if t120 = 31 then ((piece_Sign.f 1).bind fun t121 => (some (t121 == 27497))) else (some false))) else (some false))) else (some false)) = some r := H
  have A1 := Aside0.mk A10
  clear A10
  by_cases c2 : t118.toList = ([80] : List UInt8)
  · rw [if_pos c2] at H
    have c2b0 : (t118.toList == ([80] : List UInt8)) = true := beq_iff_eq.mpr c2
    have c2b1 : (t118.toList != ([80] : List UInt8)) = false := bne_eq_false_iff_eq.mpr c2
    clear c2
    replace H := Option.bind_eq_some_iff.mp H
    obtain ⟨t119, A30, H⟩ := H
    replace H : (if t119.toList = ([112] : List UInt8) then ((piece_Of.f 1 15).bind fun t120 => (if t120 = 31 then ((piece_Sign.f 1).bind fun t121 => (some (t121 == 27497))) else (some false))) else (some false)) = some r := H
    have A3 := Aside0.mk A30
    clear A30
    by_cases c4 : t119.toList = ([112] : List UInt8)
    · rw [if_pos c4] at H
      have c4b0 : (t119.toList == ([112] : List UInt8)) = true := beq_iff_eq.mpr c4
      have c4b1 : (t119.toList != ([112] : List UInt8)) = false := bne_eq_false_iff_eq.mpr c4
      clear c4
      replace H := Option.bind_eq_some_iff.mp H
      obtain ⟨t120, A50, H⟩ := H
      replace H : (if t120 = 31 then ((piece_Sign.f 1).bind fun t121 => (some (t121 == 27497))) else (some false)) = some r := H
      have A5 := Aside0.mk A50
      clear A50
      by_cases c6 : t120 = 31
      · rw [if_pos c6] at H
        have c6b0 : (t120 == 31) = true := beq_iff_eq.mpr c6
        have c6b1 : (t120 != 31) = false := bne_eq_false_iff_eq.mpr c6
        clear c6
        replace H := Option.bind_eq_some_iff.mp H
        obtain ⟨t121, A70, H⟩ := H
        replace H : (some (t121 == 27497)) = some r := H
        have A7 := Aside0.mk A70
        clear A70
        obtain rfl := Option.some.inj H
        go_enter Try.func10, Try.ntmps10
        go_wp2_with (first | ((with_reducible refine gate_callee (f := 15) rfl ?_); refine goesL_ (some 1) rfl rfl Try.func15 (by kernel_rfl) rfl #[.int .i8 1] rfl (by (try simp only [List.map_toArray, List.map_cons, List.map_nil]); first | done | rfl | (simp only [List.length_drop, List.length_take]; rfl)) ?_; (with_reducible refine (piece_Name.calls k 1 t118 _ A1.out).mono ?_); rintro e w8 ⟨rfl, hb⟩; refine ⟨_, rfl, ?_⟩; have n0_ := Aside0.mk (below_step (by repeat (first | (with_reducible first | exact HB.out | apply below_alloc | apply pw_below_drewN | apply below_drew1) | exact HB.out)) hb); clear HB; have HB := n0_; clear n0_; (try clear hb); (try clear hb2); (try clear hk); (try clear hi)) | (go_at_call 15; (with_reducible refine (piece_Name.calls k 17 t119 _ A3.out).mono ?_); rintro e w9 ⟨rfl, hb⟩; have n0_ := Aside0.mk (below_step (by repeat (first | (with_reducible first | exact HB.out | apply below_alloc | apply pw_below_drewN | apply below_drew1) | exact HB.out)) hb); clear HB; have HB := n0_; clear n0_; (try clear hb); (try clear hb2); (try clear hk); (try clear hi)) | (go_at_call 17; (with_reducible refine (piece_Of.calls 1 15 t120 _ A5.out).mono ?_); rintro e w' ⟨rfl, ⟨nd, rfl⟩⟩) | (go_at_call 20; (with_reducible refine (piece_Sign.calls 1 t121 _ A7.out).mono ?_); rintro e w10 ⟨rfl, hb⟩; have n0_ := Aside0.mk (below_step (by repeat (first | (with_reducible first | exact HB.out | apply below_alloc | apply pw_below_drewN | apply below_drew1) | exact HB.out)) hb); clear HB; have HB := n0_; clear n0_; (try clear hb); (try clear hb2); (try clear hk); (try clear hi)))
        go_ret
        exact ⟨by first | rfl | (simp [errW_none, errW_some] <;> rfl) | (simp [*, errW_none, errW_some] <;> rfl) | (simp [*, errW_none, errW_some]; generalize ByteArray.toList _ = q_; cases q_ <;> rfl), by repeat (first | (with_reducible first | exact HB.out | apply below_alloc | apply pw_below_drewN | apply below_drew1) | exact HB.out)⟩
      · rw [if_neg c6] at H
        have c6b0 : (t120 == 31) = false := beq_eq_false_iff_ne.mpr c6
        have c6b1 : (t120 != 31) = true := bne_iff_ne.mpr c6
        obtain rfl := Option.some.inj H
        go_enter Try.func10, Try.ntmps10
        go_wp2_with (first | ((with_reducible refine gate_callee (f := 15) rfl ?_); refine goesL_ (some 1) rfl rfl Try.func15 (by kernel_rfl) rfl #[.int .i8 1] rfl (by (try simp only [List.map_toArray, List.map_cons, List.map_nil]); first | done | rfl | (simp only [List.length_drop, List.length_take]; rfl)) ?_; (with_reducible refine (piece_Name.calls k 1 t118 _ A1.out).mono ?_); rintro e w11 ⟨rfl, hb⟩; refine ⟨_, rfl, ?_⟩; have n0_ := Aside0.mk (below_step (by repeat (first | (with_reducible first | exact HB.out | apply below_alloc | apply pw_below_drewN | apply below_drew1) | exact HB.out)) hb); clear HB; have HB := n0_; clear n0_; (try clear hb); (try clear hb2); (try clear hk); (try clear hi)) | (go_at_call 15; (with_reducible refine (piece_Name.calls k 17 t119 _ A3.out).mono ?_); rintro e w12 ⟨rfl, hb⟩; have n0_ := Aside0.mk (below_step (by repeat (first | (with_reducible first | exact HB.out | apply below_alloc | apply pw_below_drewN | apply below_drew1) | exact HB.out)) hb); clear HB; have HB := n0_; clear n0_; (try clear hb); (try clear hb2); (try clear hk); (try clear hi)) | (go_at_call 17; (with_reducible refine (piece_Of.calls 1 15 t120 _ A5.out).mono ?_); rintro e w' ⟨rfl, ⟨nd, rfl⟩⟩))
        go_ret
        exact ⟨by first | rfl | (simp [errW_none, errW_some] <;> rfl) | (simp [*, errW_none, errW_some] <;> rfl) | (simp [*, errW_none, errW_some]; generalize ByteArray.toList _ = q_; cases q_ <;> rfl), by repeat (first | (with_reducible first | exact HB.out | apply below_alloc | apply pw_below_drewN | apply below_drew1) | exact HB.out)⟩
    · rw [if_neg c4] at H
      have c4b0 : (t119.toList == ([112] : List UInt8)) = false := beq_eq_false_iff_ne.mpr c4
      have c4b1 : (t119.toList != ([112] : List UInt8)) = true := bne_iff_ne.mpr c4
      obtain rfl := Option.some.inj H
      go_enter Try.func10, Try.ntmps10
      go_wp2_with (first | ((with_reducible refine gate_callee (f := 15) rfl ?_); refine goesL_ (some 1) rfl rfl Try.func15 (by kernel_rfl) rfl #[.int .i8 1] rfl (by (try simp only [List.map_toArray, List.map_cons, List.map_nil]); first | done | rfl | (simp only [List.length_drop, List.length_take]; rfl)) ?_; (with_reducible refine (piece_Name.calls k 1 t118 _ A1.out).mono ?_); rintro e w13 ⟨rfl, hb⟩; refine ⟨_, rfl, ?_⟩; have n0_ := Aside0.mk (below_step (by repeat (first | (with_reducible first | exact HB.out | apply below_alloc | apply pw_below_drewN | apply below_drew1) | exact HB.out)) hb); clear HB; have HB := n0_; clear n0_; (try clear hb); (try clear hb2); (try clear hk); (try clear hi)) | (go_at_call 15; (with_reducible refine (piece_Name.calls k 17 t119 _ A3.out).mono ?_); rintro e w14 ⟨rfl, hb⟩; have n0_ := Aside0.mk (below_step (by repeat (first | (with_reducible first | exact HB.out | apply below_alloc | apply pw_below_drewN | apply below_drew1) | exact HB.out)) hb); clear HB; have HB := n0_; clear n0_; (try clear hb); (try clear hb2); (try clear hk); (try clear hi)))
      go_ret
      exact ⟨by first | rfl | (simp [errW_none, errW_some] <;> rfl) | (simp [*, errW_none, errW_some] <;> rfl) | (simp [*, errW_none, errW_some]; generalize ByteArray.toList _ = q_; cases q_ <;> rfl), by repeat (first | (with_reducible first | exact HB.out | apply below_alloc | apply pw_below_drewN | apply below_drew1) | exact HB.out)⟩
  · rw [if_neg c2] at H
    have c2b0 : (t118.toList == ([80] : List UInt8)) = false := beq_eq_false_iff_ne.mpr c2
    have c2b1 : (t118.toList != ([80] : List UInt8)) = true := bne_iff_ne.mpr c2
    obtain rfl := Option.some.inj H
    go_enter Try.func10, Try.ntmps10
    go_wp2_with (first | ((with_reducible refine gate_callee (f := 15) rfl ?_); refine goesL_ (some 1) rfl rfl Try.func15 (by kernel_rfl) rfl #[.int .i8 1] rfl (by (try simp only [List.map_toArray, List.map_cons, List.map_nil]); first | done | rfl | (simp only [List.length_drop, List.length_take]; rfl)) ?_; (with_reducible refine (piece_Name.calls k 1 t118 _ A1.out).mono ?_); rintro e w15 ⟨rfl, hb⟩; refine ⟨_, rfl, ?_⟩; have n0_ := Aside0.mk (below_step (by repeat (first | (with_reducible first | exact HB.out | apply below_alloc | apply pw_below_drewN | apply below_drew1) | exact HB.out)) hb); clear HB; have HB := n0_; clear n0_; (try clear hb); (try clear hb2); (try clear hk); (try clear hi)))
    go_ret
    exact ⟨by first | rfl | (simp [errW_none, errW_some] <;> rfl) | (simp [*, errW_none, errW_some] <;> rfl) | (simp [*, errW_none, errW_some]; generalize ByteArray.toList _ = q_; cases q_ <;> rfl), by repeat (first | (with_reducible first | exact HB.out | apply below_alloc | apply pw_below_drewN | apply below_drew1) | exact HB.out)⟩

/-! ### kakugyoref02_Kind: function 13 -/
def kakugyoref02_Kind.f (a0 : Int) : Option (Int) := if a0 < 1 then (some 0) else (if a0 > 31 then (some 0) else (if a0 = 13 then (some 0) else (if a0 = 16 then (some 0) else (if a0 = 29 then (some 0) else (some (Int.tmod a0 16))))))
set_option maxHeartbeats 8000000 in
set_option maxRecDepth 100000 in
theorem kakugyoref02_Kind.calls (a0 : Int) (r : Int) (w : World) (h : kakugyoref02_Kind.f a0 = some r) :
    Calls Try.prog 13 #[.int .i64 a0] w fun e w' => e = .returned (.int .i64 r) ∧ Drawn0 w w' := by
  have H : (if a0 < 1 then (some 0) else (if a0 > 31 then (some 0) else (if a0 = 13 then (some 0) else (if a0 = 16 then (some 0) else (if a0 = 29 then (some 0) else (some (Int.tmod a0 16))))))) = some r := h
  clear h
  by_cases c2 : a0 < 1
  · rw [if_pos c2] at H
    have c2b0 : decide (a0 < 1) = true := decide_eq_true c2
    clear c2
    obtain rfl := Option.some.inj H
    go_enter Try.func13, Try.ntmps13
    go_wp2
    go_ret
    exact ⟨by first | rfl | (simp; done) | (simp [*]; done), by repeat (first | exact Drawn0.refl _ | apply Drawn0.step)⟩
  · rw [if_neg c2] at H
    have c2b0 : decide (a0 < 1) = false := decide_eq_false c2
    clear c2
    by_cases c3 : a0 > 31
    · rw [if_pos c3] at H
      have c3b0 : decide (31 < a0) = true := decide_eq_true c3
      clear c3
      obtain rfl := Option.some.inj H
      go_enter Try.func13, Try.ntmps13
      go_wp2
      go_ret
      exact ⟨by first | rfl | (simp; done) | (simp [*]; done), by repeat (first | exact Drawn0.refl _ | apply Drawn0.step)⟩
    · rw [if_neg c3] at H
      have c3b0 : decide (31 < a0) = false := decide_eq_false c3
      clear c3
      by_cases c4 : a0 = 13
      · rw [if_pos c4] at H
        have c4b0 : (a0 == 13) = true := beq_iff_eq.mpr c4
        have c4b1 : (a0 != 13) = false := bne_eq_false_iff_eq.mpr c4
        clear c4
        obtain rfl := Option.some.inj H
        go_enter Try.func13, Try.ntmps13
        go_wp2
        go_ret
        exact ⟨by first | rfl | (simp; done) | (simp [*]; done), by repeat (first | exact Drawn0.refl _ | apply Drawn0.step)⟩
      · rw [if_neg c4] at H
        have c4b0 : (a0 == 13) = false := beq_eq_false_iff_ne.mpr c4
        have c4b1 : (a0 != 13) = true := bne_iff_ne.mpr c4
        by_cases c5 : a0 = 16
        · rw [if_pos c5] at H
          have c5b0 : (a0 == 16) = true := beq_iff_eq.mpr c5
          have c5b1 : (a0 != 16) = false := bne_eq_false_iff_eq.mpr c5
          clear c5
          obtain rfl := Option.some.inj H
          go_enter Try.func13, Try.ntmps13
          go_wp2
          go_ret
          exact ⟨by first | rfl | (simp; done) | (simp [*]; done), by repeat (first | exact Drawn0.refl _ | apply Drawn0.step)⟩
        · rw [if_neg c5] at H
          have c5b0 : (a0 == 16) = false := beq_eq_false_iff_ne.mpr c5
          have c5b1 : (a0 != 16) = true := bne_iff_ne.mpr c5
          by_cases c6 : a0 = 29
          · rw [if_pos c6] at H
            have c6b0 : (a0 == 29) = true := beq_iff_eq.mpr c6
            have c6b1 : (a0 != 29) = false := bne_eq_false_iff_eq.mpr c6
            clear c6
            obtain rfl := Option.some.inj H
            go_enter Try.func13, Try.ntmps13
            go_wp2
            go_ret
            exact ⟨by first | rfl | (simp; done) | (simp [*]; done), by repeat (first | exact Drawn0.refl _ | apply Drawn0.step)⟩
          · rw [if_neg c6] at H
            have c6b0 : (a0 == 29) = false := beq_eq_false_iff_ne.mpr c6
            have c6b1 : (a0 != 29) = true := bne_iff_ne.mpr c6
            obtain rfl := Option.some.inj H
            go_enter Try.func13, Try.ntmps13
            go_wp2
            go_ret
            exact ⟨by first | rfl | (simp; done) | (simp [*]; done), by repeat (first | exact Drawn0.refl _ | apply Drawn0.step)⟩

/-! ### kakugyoref02_Side: function 14 -/
def kakugyoref02_Side.f (a0 : Int) : Option (Int) := (kakugyoref02_Kind.f a0).bind fun t122 => (if t122 = 0 then (some (-1)) else (some (wrap64 (Int.tdiv a0 16))))
set_option maxHeartbeats 8000000 in
set_option maxRecDepth 100000 in
theorem kakugyoref02_Side.calls (a0 : Int) (r : Int) (w : World) (h : kakugyoref02_Side.f a0 = some r) :
    Calls Try.prog 14 #[.int .i64 a0] w fun e w' => e = .returned (.int .i64 r) ∧ Drawn0 w w' := by
  have H : ((kakugyoref02_Kind.f a0).bind fun t122 => (if t122 = 0 then (some (-1)) else (some (wrap64 (Int.tdiv a0 16))))) = some r := h
  clear h
  replace H := Option.bind_eq_some_iff.mp H
  obtain ⟨t122, A20, H⟩ := H
  replace H : (if t122 = 0 then (some (-1)) else (some (wrap64 (Int.tdiv a0 16)))) = some r := H
  have A2 := Aside0.mk A20
  clear A20
  by_cases c3 : t122 = 0
  · rw [if_pos c3] at H
    have c3b0 : (t122 == 0) = true := beq_iff_eq.mpr c3
    have c3b1 : (t122 != 0) = false := bne_eq_false_iff_eq.mpr c3
    clear c3
    obtain rfl := Option.some.inj H
    go_enter Try.func14, Try.ntmps14
    go_wp2_with (first | ((with_reducible refine gate_callee (f := 13) rfl ?_); refine goesL_ (some 4) rfl rfl Try.func13 (by kernel_rfl) rfl #[.int .i64 a0] rfl (by (try simp only [List.map_toArray, List.map_cons, List.map_nil]); first | done | rfl | (simp only [List.length_drop, List.length_take]; rfl)) ?_; (with_reducible refine (kakugyoref02_Kind.calls a0 t122 _ A2.out).mono ?_); rintro e w' ⟨rfl, ⟨nd, rfl⟩⟩; refine ⟨_, rfl, ?_⟩))
    go_ret
    exact ⟨by first | rfl | (simp; done) | (simp [*]; done), by repeat (first | exact Drawn0.refl _ | apply Drawn0.step)⟩
  · rw [if_neg c3] at H
    have c3b0 : (t122 == 0) = false := beq_eq_false_iff_ne.mpr c3
    have c3b1 : (t122 != 0) = true := bne_iff_ne.mpr c3
    obtain rfl := Option.some.inj H
    go_enter Try.func14, Try.ntmps14
    go_wp2_with (first | ((with_reducible refine gate_callee (f := 13) rfl ?_); refine goesL_ (some 4) rfl rfl Try.func13 (by kernel_rfl) rfl #[.int .i64 a0] rfl (by (try simp only [List.map_toArray, List.map_cons, List.map_nil]); first | done | rfl | (simp only [List.length_drop, List.length_take]; rfl)) ?_; (with_reducible refine (kakugyoref02_Kind.calls a0 t122 _ A2.out).mono ?_); rintro e w' ⟨rfl, ⟨nd, rfl⟩⟩; refine ⟨_, rfl, ?_⟩))
    go_ret
    exact ⟨by first | rfl | (simp; done) | (simp [*]; done), by repeat (first | exact Drawn0.refl _ | apply Drawn0.step)⟩

end Go.Proofs.Ytnmfkhnddnohjaa.Pa
