-- Printed by a program of this session: the kit's printer, with contracts of this session's own among its functions.
import Derived.Test.YtmoeodcmfjnihaaPax0
import Derived.Test.YtmoeodcmfjnihaaPax8
namespace Go.Proofs.Ytmoeodcmfjnihaa.Pa
open Go.RowKit Go.Proofs.YtmoeodcmfjnihaaW.PrintWords Go.Proofs.YtmoeodcmfjnihaaW.PrintLast Go.Proofs.YtmoeodcmfjnihaaW.PrintMore
attribute [local go_sem] max2_int min2_int max_two min_two max_three min_three max_four min_four   -- for this text's walks alone
set_option linter.unusedVariables false
set_option linter.unusedSimpArgs false

/-! ### kakugyoref03_Step: function 23 -/
mutual
def kakugyoref03_Step.j0 : Nat → Int → Int → Int → Bool → Option (Bool)
  | 0, _, _, _, _ => none
  | k + 1, x0, x1, x2, x28 => if x28 = true then (some false) else ((kakugyoref03_size.f (wrap64 ((wrap64 (Int.tdiv x2 9)) - (wrap64 (Int.tdiv x1 9))))).bind fun t248 => ((kakugyoref02_Side.f x0).bind fun t249 => (if t249 = 1 then (kakugyoref03_Step.j1 k x0 t248 (wrap64 (-(wrap64 ((Int.tmod x1 9) - (Int.tmod x2 9)))))) else (kakugyoref03_Step.j1 k x0 t248 (wrap64 ((Int.tmod x1 9) - (Int.tmod x2 9)))))))
def kakugyoref03_Step.j1 : Nat → Int → Int → Int → Option (Bool)
  | 0, _, _, _ => none
  | k + 1, x0, x7, x8 => if x7 ≤ 1 then ((kakugyoref03_size.f x8).bind fun t250 => (kakugyoref03_Step.j2 k x0 x7 x8 (decide (t250 ≤ 1)))) else (kakugyoref03_Step.j2 k x0 x7 x8 false)
def kakugyoref03_Step.j2 : Nat → Int → Int → Int → Bool → Option (Bool)
  | 0, _, _, _, _ => none
  | k + 1, x0, x7, x8, x9 => (kakugyoref02_Kind.f x0).bind fun t251 => (if t251 = 1 then (if x7 = 0 then (some (x8 == 1)) else (some false)) else (if t251 = 3 then (if x7 = 1 then (some (x8 == 2)) else (some false)) else (if t251 = 4 then (if x9 = true then (if x8 = 1 then (some true) else (if x7 = 1 then (some (x8 == (-1))) else (some false))) else (some false)) else (if t251 = 5 then (kakugyoref03_Step.j3 k x7 x8 x9 t251 (t251 == 5)) else (if t251 = 9 then (kakugyoref03_Step.j3 k x7 x8 x9 t251 (t251 == 9)) else (if t251 = 10 then (kakugyoref03_Step.j3 k x7 x8 x9 t251 (t251 == 10)) else (if t251 = 11 then (kakugyoref03_Step.j3 k x7 x8 x9 t251 (t251 == 11)) else (kakugyoref03_Step.j3 k x7 x8 x9 t251 (t251 == 12)))))))))
def kakugyoref03_Step.j3 : Nat → Int → Int → Bool → Int → Bool → Option (Bool)
  | 0, _, _, _, _, _ => none
  | k + 1, x7, x8, x9, x53, x85 => if x85 = true then (if x9 = true then (if x8 ≥ 0 then (some true) else (some (x7 == 0))) else (some false)) else (if x53 = 8 then (some x9) else (if x53 = 14 then (if x9 = true then (if x7 = 0 then (some true) else (some (x8 == 0))) else (some false)) else (if x53 = 15 then (if x9 = true then (if x7 = 1 then (some (x8 != 0)) else (some false)) else (some false)) else (some false))))
end
def kakugyoref03_Step.f (k : Nat) (a0 : Int) (a1 : Int) (a2 : Int) : Option (Bool) := if a1 < 0 then (kakugyoref03_Step.j0 k a0 a1 a2 true) else (if a1 > 80 then (kakugyoref03_Step.j0 k a0 a1 a2 true) else (if a2 < 0 then (kakugyoref03_Step.j0 k a0 a1 a2 true) else (if a2 > 80 then (kakugyoref03_Step.j0 k a0 a1 a2 true) else (kakugyoref03_Step.j0 k a0 a1 a2 (a1 == a2)))))
theorem kakugyoref03_Step.mono_l : ∀ k, (∀ y0 y1 y2 y3, LeO (kakugyoref03_Step.j0 k y0 y1 y2 y3) (kakugyoref03_Step.j0 (k + 1) y0 y1 y2 y3)) ∧ (∀ y0 y1 y2, LeO (kakugyoref03_Step.j1 k y0 y1 y2) (kakugyoref03_Step.j1 (k + 1) y0 y1 y2)) ∧ (∀ y0 y1 y2 y3, LeO (kakugyoref03_Step.j2 k y0 y1 y2 y3) (kakugyoref03_Step.j2 (k + 1) y0 y1 y2 y3)) ∧ (∀ y0 y1 y2 y3 y4, LeO (kakugyoref03_Step.j3 k y0 y1 y2 y3 y4) (kakugyoref03_Step.j3 (k + 1) y0 y1 y2 y3 y4))
  | 0 => ⟨fun _ _ _ _ r h => by simp [kakugyoref03_Step.j0] at h, fun _ _ _ r h => by simp [kakugyoref03_Step.j1] at h, fun _ _ _ _ r h => by simp [kakugyoref03_Step.j2] at h, fun _ _ _ _ _ r h => by simp [kakugyoref03_Step.j3] at h⟩
  | k + 1 => by
    obtain ⟨ih0, ih1, ih2, ih3⟩ := kakugyoref03_Step.mono_l k
    refine ⟨?_, ?_, ?_, ?_⟩
    · intro y0 y1 y2 y3
      unfold kakugyoref03_Step.j0
      repeat' first
      | (with_reducible exact ih0 _ _ _ _)
      | (with_reducible exact ih1 _ _ _)
      | (with_reducible exact ih2 _ _ _ _)
      | (with_reducible exact ih3 _ _ _ _ _)
      | (with_reducible exact LeO.refl _)
      | (with_reducible exact LeO.none _)
      | (with_reducible refine LeO.ite ?_ ?_)
      | (with_reducible refine LeO.bind ?_ (fun _ => ?_))
      | exact ih0 _ _ _ _
      | exact ih1 _ _ _
      | exact ih2 _ _ _ _
      | exact ih3 _ _ _ _ _
      | exact LeO.none _
      | refine LeO.ite ?_ ?_
      | refine LeO.bind ?_ (fun _ => ?_)
    · intro y0 y1 y2
      unfold kakugyoref03_Step.j1
      repeat' first
      | (with_reducible exact ih0 _ _ _ _)
      | (with_reducible exact ih1 _ _ _)
      | (with_reducible exact ih2 _ _ _ _)
      | (with_reducible exact ih3 _ _ _ _ _)
      | (with_reducible exact LeO.refl _)
      | (with_reducible exact LeO.none _)
      | (with_reducible refine LeO.ite ?_ ?_)
      | (with_reducible refine LeO.bind ?_ (fun _ => ?_))
      | exact ih0 _ _ _ _
      | exact ih1 _ _ _
      | exact ih2 _ _ _ _
      | exact ih3 _ _ _ _ _
      | exact LeO.none _
      | refine LeO.ite ?_ ?_
      | refine LeO.bind ?_ (fun _ => ?_)
    · intro y0 y1 y2 y3
      unfold kakugyoref03_Step.j2
      repeat' first
      | (with_reducible exact ih0 _ _ _ _)
      | (with_reducible exact ih1 _ _ _)
      | (with_reducible exact ih2 _ _ _ _)
      | (with_reducible exact ih3 _ _ _ _ _)
      | (with_reducible exact LeO.refl _)
      | (with_reducible exact LeO.none _)
      | (with_reducible refine LeO.ite ?_ ?_)
      | (with_reducible refine LeO.bind ?_ (fun _ => ?_))
      | exact ih0 _ _ _ _
      | exact ih1 _ _ _
      | exact ih2 _ _ _ _
      | exact ih3 _ _ _ _ _
      | exact LeO.none _
      | refine LeO.ite ?_ ?_
      | refine LeO.bind ?_ (fun _ => ?_)
    · intro y0 y1 y2 y3 y4
      unfold kakugyoref03_Step.j3
      repeat' first
      | (with_reducible exact ih0 _ _ _ _)
      | (with_reducible exact ih1 _ _ _)
      | (with_reducible exact ih2 _ _ _ _)
      | (with_reducible exact ih3 _ _ _ _ _)
      | (with_reducible exact LeO.refl _)
      | (with_reducible exact LeO.none _)
      | (with_reducible refine LeO.ite ?_ ?_)
      | (with_reducible refine LeO.bind ?_ (fun _ => ?_))
      | exact ih0 _ _ _ _
      | exact ih1 _ _ _
      | exact ih2 _ _ _ _
      | exact ih3 _ _ _ _ _
      | exact LeO.none _
      | refine LeO.ite ?_ ?_
      | refine LeO.bind ?_ (fun _ => ?_)
theorem kakugyoref03_Step.mono : ∀ a0 a1 a2 k, LeO (kakugyoref03_Step.f k a0 a1 a2) (kakugyoref03_Step.f (k + 1) a0 a1 a2) := by
  intro a0 a1 a2 k
  obtain ⟨ih0, ih1, ih2, ih3⟩ := kakugyoref03_Step.mono_l k
  unfold kakugyoref03_Step.f
  repeat' first
      | (with_reducible exact ih0 _ _ _ _)
      | (with_reducible exact ih1 _ _ _)
      | (with_reducible exact ih2 _ _ _ _)
      | (with_reducible exact ih3 _ _ _ _ _)
      | (with_reducible exact LeO.refl _)
      | (with_reducible exact LeO.none _)
      | (with_reducible refine LeO.ite ?_ ?_)
      | (with_reducible refine LeO.bind ?_ (fun _ => ?_))
      | exact ih0 _ _ _ _
      | exact ih1 _ _ _
      | exact ih2 _ _ _ _
      | exact ih3 _ _ _ _ _
      | exact LeO.none _
      | refine LeO.ite ?_ ?_
      | refine LeO.bind ?_ (fun _ => ?_)
set_option maxHeartbeats 8000000 in
set_option maxRecDepth 100000 in
theorem kakugyoref03_Step.calls (k : Nat) (a0 : Int) (a1 : Int) (a2 : Int) (r : Bool) (w : World) (h : kakugyoref03_Step.f k a0 a1 a2 = some r) :
    Calls Try.prog 23 #[.int .i64 a0, .int .i64 a1, .int .i64 a2] w fun e w' => e = .returned (.bool r) ∧ Drawn0 w w' := by
  have H : (if a1 < 0 then (kakugyoref03_Step.j0 k a0 a1 a2 true) else (if a1 > 80 then (kakugyoref03_Step.j0 k a0 a1 a2 true) else (if a2 < 0 then (kakugyoref03_Step.j0 k a0 a1 a2 true) else (if a2 > 80 then (kakugyoref03_Step.j0 k a0 a1 a2 true) else (kakugyoref03_Step.j0 k a0 a1 a2 (a1 == a2)))))) = some r := h
  clear h
  have HC4 := Aside0.mk H
  clear H
  go_enter Try.func23, Try.ntmps23
  go_upto_region 1 with (fail)
  go_cut [28] (fun v28 wc => ∃ (kq : Nat) (x28_3 : Bool), v28 = .bool x28_3 ∧ Aside0 (kakugyoref03_Step.j0 kq a0 a1 a2 x28_3 = some r) ∧ Aside0 (kq ≤ k) ∧ Drawn0 w wc)
  case first =>
    have H := HC4.out
    clear HC4
    by_cases c5 : a1 < 0
    · rw [if_pos c5] at H
      have c5b0 : decide (a1 < 0) = true := decide_eq_true c5
      clear c5
      (first | rw [c5b0] | (simp only [i64_w, i32_w]; rw [c5b0]) | skip)
      have H' := Aside0.mk H
      clear H
      go_wp2
      go_meet
      case rel => exact ⟨_, (true), (by first | rfl | (simp; done) | (simp [*]; done)), H', ⟨by first | omega | exact Nat.le_refl _⟩, by repeat (first | exact Drawn0.refl _ | apply Drawn0.step)⟩
    · rw [if_neg c5] at H
      have c5b0 : decide (a1 < 0) = false := decide_eq_false c5
      clear c5
      (first | rw [c5b0] | (simp only [i64_w, i32_w]; rw [c5b0]) | skip)
      by_cases c6 : a1 > 80
      · rw [if_pos c6] at H
        have c6b0 : decide (80 < a1) = true := decide_eq_true c6
        clear c6
        have H' := Aside0.mk H
        clear H
        go_wp2
        go_meet
        case rel => exact ⟨_, (true), (by first | rfl | (simp; done) | (simp [*]; done)), H', ⟨by first | omega | exact Nat.le_refl _⟩, by repeat (first | exact Drawn0.refl _ | apply Drawn0.step)⟩
      · rw [if_neg c6] at H
        have c6b0 : decide (80 < a1) = false := decide_eq_false c6
        clear c6
        by_cases c7 : a2 < 0
        · rw [if_pos c7] at H
          have c7b0 : decide (a2 < 0) = true := decide_eq_true c7
          clear c7
          have H' := Aside0.mk H
          clear H
          go_wp2
          go_meet
          case rel => exact ⟨_, (true), (by first | rfl | (simp; done) | (simp [*]; done)), H', ⟨by first | omega | exact Nat.le_refl _⟩, by repeat (first | exact Drawn0.refl _ | apply Drawn0.step)⟩
        · rw [if_neg c7] at H
          have c7b0 : decide (a2 < 0) = false := decide_eq_false c7
          clear c7
          by_cases c8 : a2 > 80
          · rw [if_pos c8] at H
            have c8b0 : decide (80 < a2) = true := decide_eq_true c8
            clear c8
            have H' := Aside0.mk H
            clear H
            go_wp2
            go_meet
            case rel => exact ⟨_, (true), (by first | rfl | (simp; done) | (simp [*]; done)), H', ⟨by first | omega | exact Nat.le_refl _⟩, by repeat (first | exact Drawn0.refl _ | apply Drawn0.step)⟩
          · rw [if_neg c8] at H
            have c8b0 : decide (80 < a2) = false := decide_eq_false c8
            clear c8
            have H' := Aside0.mk H
            clear H
            go_wp2
            go_meet
            case rel => exact ⟨_, ((a1 == a2)), (by first | rfl | (simp; done) | (simp [*]; done)), H', ⟨by first | omega | exact Nat.le_refl _⟩, by repeat (first | exact Drawn0.refl _ | apply Drawn0.step)⟩
  case rest =>
    clear HC4
    try clear c2
    try clear p2
    try clear c5
    try clear c5b0
    try clear c6
    try clear c6b0
    try clear c7
    try clear c7b0
    try clear c8
    try clear c8b0
    obtain ⟨kq, x28_3, rfl, HA, HJ3, ⟨mc3, rfl⟩⟩ := hcut
    cases kq with
    | zero => exact absurd HA.out (by simp [kakugyoref03_Step.j0])
    | succ kj3 =>
      have H := HA.out
      clear HA
      simp only [kakugyoref03_Step.j0] at H
      by_cases c9 : x28_3 = true
      · subst c9
        have H1 : (some false) = some r := by rw [if_pos rfl] at H; exact H
        clear H
        have H := H1
        clear H1
        obtain rfl := Option.some.inj H
        go_wp2
        go_ret
        exact ⟨by first | rfl | (simp; done) | (simp [*]; done), by repeat (first | exact Drawn0.refl _ | apply Drawn0.step)⟩
      · replace c9 := Bool.eq_false_iff.mpr c9
        subst c9
        have H1 : ((kakugyoref03_size.f (wrap64 ((wrap64 (Int.tdiv a2 9)) - (wrap64 (Int.tdiv a1 9))))).bind fun t248 => ((kakugyoref02_Side.f a0).bind fun t249 => (if t249 = 1 then (kakugyoref03_Step.j1 kj3 a0 t248 (wrap64 (-(wrap64 ((Int.tmod a1 9) - (Int.tmod a2 9)))))) else (kakugyoref03_Step.j1 kj3 a0 t248 (wrap64 ((Int.tmod a1 9) - (Int.tmod a2 9))))))) = some r := by rw [if_neg (show ¬ (false = true) by decide)] at H; exact H
        clear H
        have H := H1
        clear H1
        replace H := Option.bind_eq_some_iff.mp H
        obtain ⟨t248, A100, H⟩ := H
        replace H : ((kakugyoref02_Side.f a0).bind fun t249 => (if t249 = 1 then (kakugyoref03_Step.j1 kj3 a0 t248 (wrap64 (-(wrap64 ((Int.tmod a1 9) - (Int.tmod a2 9)))))) else (kakugyoref03_Step.j1 kj3 a0 t248 (wrap64 ((Int.tmod a1 9) - (Int.tmod a2 9)))))) = some r := H
        have A10 := Aside0.mk A100
        clear A100
        replace H := Option.bind_eq_some_iff.mp H
        obtain ⟨t249, A110, H⟩ := H
        replace H : (if t249 = 1 then (kakugyoref03_Step.j1 kj3 a0 t248 (wrap64 (-(wrap64 ((Int.tmod a1 9) - (Int.tmod a2 9)))))) else (kakugyoref03_Step.j1 kj3 a0 t248 (wrap64 ((Int.tmod a1 9) - (Int.tmod a2 9))))) = some r := H
        have A11 := Aside0.mk A110
        clear A110
        have HC12 := Aside0.mk H
        clear H
        go_upto_if 42 with (first | ((with_reducible refine gate_callee (f := 37) rfl ?_); refine goesL_ (some 34) rfl rfl Try.func37 (by kernel_rfl) rfl #[.int .i64 (wrap64 ((wrap64 (Int.tdiv a2 9)) - (wrap64 (Int.tdiv a1 9))))] rfl (by (try simp only [List.map_toArray, List.map_cons, List.map_nil]); first | done | rfl | (simp only [List.length_drop, List.length_take]; rfl)) ?_; (with_reducible refine (kakugyoref03_size.calls (wrap64 ((wrap64 (Int.tdiv a2 9)) - (wrap64 (Int.tdiv a1 9)))) t248 _ A10.out).mono ?_); rintro e w' ⟨rfl, ⟨nd, rfl⟩⟩; refine ⟨_, rfl, ?_⟩) | ((with_reducible refine gate_callee (f := 38) rfl ?_); refine goesL_ (some 41) rfl rfl Try.func38 (by kernel_rfl) rfl #[.int .i64 a0] rfl (by (try simp only [List.map_toArray, List.map_cons, List.map_nil]); first | done | rfl | (simp only [List.length_drop, List.length_take]; rfl)) ?_; (with_reducible refine (kakugyoref02_Side.calls a0 t249 _ A11.out).mono ?_); rintro e w' ⟨rfl, ⟨nd, rfl⟩⟩; refine ⟨_, rfl, ?_⟩))
        (try simp only [Act.put, List.setIfInBounds_toArray, List.set_cons_zero, List.set_cons_succ])
        go_cut [8] (fun v8 wc => ∃ (kq : Nat) (x8_11 : Int), v8 = .int .i64 x8_11 ∧ Aside0 (kakugyoref03_Step.j1 kq a0 t248 x8_11 = some r) ∧ Aside0 (kq ≤ kj3) ∧ Drawn0 w wc)
        case first =>
          have H := HC12.out
          clear HC12
          by_cases c13 : t249 = 1
          · rw [if_pos c13] at H
            have c13b0 : (t249 == 1) = true := beq_iff_eq.mpr c13
            have c13b1 : (t249 != 1) = false := bne_eq_false_iff_eq.mpr c13
            clear c13
            (first | rw [c13b0] | (simp only [i64_w, i32_w]; rw [c13b0]) | skip)
            have H' := Aside0.mk H
            clear H
            go_wp2
            go_meet
            case rel => exact ⟨_, (wrap64 (-(wrap64 ((Int.tmod a1 9) - (Int.tmod a2 9))))), (by first | rfl | (simp; done) | (simp [*]; done)), H', ⟨by have := HJ3.out; first | omega | exact Nat.le_refl _⟩, by repeat (first | exact Drawn0.refl _ | apply Drawn0.step)⟩
          · rw [if_neg c13] at H
            have c13b0 : (t249 == 1) = false := beq_eq_false_iff_ne.mpr c13
            have c13b1 : (t249 != 1) = true := bne_iff_ne.mpr c13
            (first | rw [c13b0] | (simp only [i64_w, i32_w]; rw [c13b0]) | skip)
            have H' := Aside0.mk H
            clear H
            go_wp2
            go_meet
            case rel => exact ⟨_, (wrap64 ((Int.tmod a1 9) - (Int.tmod a2 9))), (by first | rfl | (simp; done) | (simp [*]; done)), H', ⟨by have := HJ3.out; first | omega | exact Nat.le_refl _⟩, by repeat (first | exact Drawn0.refl _ | apply Drawn0.step)⟩
        case rest =>
          clear HC12
          try clear c1
          try clear c2
          try clear p2
          try clear c3
          try clear c5
          try clear c5b0
          try clear c6
          try clear c6b0
          try clear p6
          try clear c7
          try clear c7b0
          try clear c8
          try clear c8b0
          try clear c9
          try clear c13
          try clear c13b0
          try clear c13b1
          try clear p2
          obtain ⟨kq, x8_11, rfl, HA, HJ11, ⟨mc11, rfl⟩⟩ := hcut
          cases kq with
          | zero => exact absurd HA.out (by simp [kakugyoref03_Step.j1])
          | succ kj11 =>
            have H := HA.out
            clear HA
            simp only [kakugyoref03_Step.j1] at H
            have HC14 := Aside0.mk H
            clear H
            go_upto_region 7 with (fail)
            go_cut [9] (fun v9 wc => ∃ (kq : Nat) (x9_13 : Bool), v9 = .bool x9_13 ∧ Aside0 (kakugyoref03_Step.j2 kq a0 t248 x8_11 x9_13 = some r) ∧ Aside0 (kq ≤ kj11) ∧ Drawn0 w wc)
            case first =>
              have H := HC14.out
              clear HC14
              by_cases c15 : t248 ≤ 1
              · rw [if_pos c15] at H
                have c15b0 : decide (t248 ≤ 1) = true := decide_eq_true c15
                clear c15
                (first | rw [c15b0] | (simp only [i64_w, i32_w]; rw [c15b0]) | skip)
                replace H := Option.bind_eq_some_iff.mp H
                obtain ⟨t250, A160, H⟩ := H
                replace H : (kakugyoref03_Step.j2 kj11 a0 t248 x8_11 (decide (t250 ≤ 1))) = some r := H
                have A16 := Aside0.mk A160
                clear A160
                have H' := Aside0.mk H
                clear H
                go_wp2_with (first | (go_at_call 37; (with_reducible refine (kakugyoref03_size.calls x8_11 t250 _ A16.out).mono ?_); rintro e w' ⟨rfl, ⟨nd, rfl⟩⟩))
                go_meet
                case rel => exact ⟨_, (decide (t250 ≤ 1)), (by first | rfl | (simp; done) | (simp [*]; done)), H', ⟨by have := HJ3.out; have := HJ11.out; first | omega | exact Nat.le_refl _⟩, by repeat (first | exact Drawn0.refl _ | apply Drawn0.step)⟩
              · rw [if_neg c15] at H
                have c15b0 : decide (t248 ≤ 1) = false := decide_eq_false c15
                clear c15
                (first | rw [c15b0] | (simp only [i64_w, i32_w]; rw [c15b0]) | skip)
                have H' := Aside0.mk H
                clear H
                go_wp2
                go_meet
                case rel => exact ⟨_, (false), (by first | rfl | (simp; done) | (simp [*]; done)), H', ⟨by have := HJ3.out; have := HJ11.out; first | omega | exact Nat.le_refl _⟩, by repeat (first | exact Drawn0.refl _ | apply Drawn0.step)⟩
            case rest =>
              clear HC14
              try clear c1
              try clear c2
              try clear p2
              try clear c3
              try clear c5
              try clear c5b0
              try clear c6
              try clear c6b0
              try clear p6
              try clear c7
              try clear c7b0
              try clear c8
              try clear c8b0
              try clear c9
              try clear c11
              try clear c13
              try clear c13b0
              try clear c13b1
              try clear c15
              try clear c15b0
              try clear p2
              try clear p6
              obtain ⟨kq, x9_13, rfl, HA, HJ13, ⟨mc13, rfl⟩⟩ := hcut
              cases kq with
              | zero => exact absurd HA.out (by simp [kakugyoref03_Step.j2])
              | succ kj13 =>
                have H := HA.out
                clear HA
                simp only [kakugyoref03_Step.j2] at H
                replace H := Option.bind_eq_some_iff.mp H
                obtain ⟨t251, A170, H⟩ := H
                replace H : (if t251 = 1 then (if t248 = 0 then (some (x8_11 == 1)) else (some false)) else (if t251 = 3 then (if t248 = 1 then (some (x8_11 == 2)) else (some false)) else (if t251 = 4 then (if x9_13 = true then (if x8_11 = 1 then (some true) else (if t248 = 1 then (some (x8_11 == (-1))) else (some false))) else (some false)) else (if t251 = 5 then (kakugyoref03_Step.j3 kj13 t248 x8_11 x9_13 t251 (t251 == 5)) else (if t251 = 9 then (kakugyoref03_Step.j3 kj13 t248 x8_11 x9_13 t251 (t251 == 9)) else (if t251 = 10 then (kakugyoref03_Step.j3 kj13 t248 x8_11 x9_13 t251 (t251 == 10)) else (if t251 = 11 then (kakugyoref03_Step.j3 kj13 t248 x8_11 x9_13 t251 (t251 == 11)) else (kakugyoref03_Step.j3 kj13 t248 x8_11 x9_13 t251 (t251 == 12))))))))) = some r := H
                have A17 := Aside0.mk A170
                clear A170
                by_cases c18 : t251 = 1
                · rw [if_pos c18] at H
                  have c18b0 : (t251 == 1) = true := beq_iff_eq.mpr c18
                  have c18b1 : (t251 != 1) = false := bne_eq_false_iff_eq.mpr c18
                  clear c18
                  by_cases c19 : t248 = 0
                  · rw [if_pos c19] at H
                    have c19b0 : (t248 == 0) = true := beq_iff_eq.mpr c19
                    have c19b1 : (t248 != 0) = false := bne_eq_false_iff_eq.mpr c19
                    clear c19
                    obtain rfl := Option.some.inj H
                    go_wp2_with (first | ((with_reducible refine gate_callee (f := 39) rfl ?_); refine goesL_ (some 53) rfl rfl Try.func39 (by kernel_rfl) rfl #[.int .i64 a0] rfl (by (try simp only [List.map_toArray, List.map_cons, List.map_nil]); first | done | rfl | (simp only [List.length_drop, List.length_take]; rfl)) ?_; (with_reducible refine (kakugyoref02_Kind.calls a0 t251 _ A17.out).mono ?_); rintro e w' ⟨rfl, ⟨nd, rfl⟩⟩; refine ⟨_, rfl, ?_⟩))
                    go_ret
                    exact ⟨by first | rfl | (simp; done) | (simp [*]; done), by repeat (first | exact Drawn0.refl _ | apply Drawn0.step)⟩
                  · rw [if_neg c19] at H
                    have c19b0 : (t248 == 0) = false := beq_eq_false_iff_ne.mpr c19
                    have c19b1 : (t248 != 0) = true := bne_iff_ne.mpr c19
                    obtain rfl := Option.some.inj H
                    go_wp2_with (first | ((with_reducible refine gate_callee (f := 39) rfl ?_); refine goesL_ (some 53) rfl rfl Try.func39 (by kernel_rfl) rfl #[.int .i64 a0] rfl (by (try simp only [List.map_toArray, List.map_cons, List.map_nil]); first | done | rfl | (simp only [List.length_drop, List.length_take]; rfl)) ?_; (with_reducible refine (kakugyoref02_Kind.calls a0 t251 _ A17.out).mono ?_); rintro e w' ⟨rfl, ⟨nd, rfl⟩⟩; refine ⟨_, rfl, ?_⟩))
                    go_ret
                    exact ⟨by first | rfl | (simp; done) | (simp [*]; done), by repeat (first | exact Drawn0.refl _ | apply Drawn0.step)⟩
                · rw [if_neg c18] at H
                  have c18b0 : (t251 == 1) = false := beq_eq_false_iff_ne.mpr c18
                  have c18b1 : (t251 != 1) = true := bne_iff_ne.mpr c18
                  by_cases c20 : t251 = 3
                  · rw [if_pos c20] at H
                    have c20b0 : (t251 == 3) = true := beq_iff_eq.mpr c20
                    have c20b1 : (t251 != 3) = false := bne_eq_false_iff_eq.mpr c20
                    clear c20
                    by_cases c21 : t248 = 1
                    · rw [if_pos c21] at H
                      have c21b0 : (t248 == 1) = true := beq_iff_eq.mpr c21
                      have c21b1 : (t248 != 1) = false := bne_eq_false_iff_eq.mpr c21
                      clear c21
                      obtain rfl := Option.some.inj H
                      go_wp2_with (first | ((with_reducible refine gate_callee (f := 39) rfl ?_); refine goesL_ (some 53) rfl rfl Try.func39 (by kernel_rfl) rfl #[.int .i64 a0] rfl (by (try simp only [List.map_toArray, List.map_cons, List.map_nil]); first | done | rfl | (simp only [List.length_drop, List.length_take]; rfl)) ?_; (with_reducible refine (kakugyoref02_Kind.calls a0 t251 _ A17.out).mono ?_); rintro e w' ⟨rfl, ⟨nd, rfl⟩⟩; refine ⟨_, rfl, ?_⟩))
                      go_ret
                      exact ⟨by first | rfl | (simp; done) | (simp [*]; done), by repeat (first | exact Drawn0.refl _ | apply Drawn0.step)⟩
                    · rw [if_neg c21] at H
                      have c21b0 : (t248 == 1) = false := beq_eq_false_iff_ne.mpr c21
                      have c21b1 : (t248 != 1) = true := bne_iff_ne.mpr c21
                      obtain rfl := Option.some.inj H
                      go_wp2_with (first | ((with_reducible refine gate_callee (f := 39) rfl ?_); refine goesL_ (some 53) rfl rfl Try.func39 (by kernel_rfl) rfl #[.int .i64 a0] rfl (by (try simp only [List.map_toArray, List.map_cons, List.map_nil]); first | done | rfl | (simp only [List.length_drop, List.length_take]; rfl)) ?_; (with_reducible refine (kakugyoref02_Kind.calls a0 t251 _ A17.out).mono ?_); rintro e w' ⟨rfl, ⟨nd, rfl⟩⟩; refine ⟨_, rfl, ?_⟩))
                      go_ret
                      exact ⟨by first | rfl | (simp; done) | (simp [*]; done), by repeat (first | exact Drawn0.refl _ | apply Drawn0.step)⟩
                  · rw [if_neg c20] at H
                    have c20b0 : (t251 == 3) = false := beq_eq_false_iff_ne.mpr c20
                    have c20b1 : (t251 != 3) = true := bne_iff_ne.mpr c20
                    by_cases c22 : t251 = 4
                    · rw [if_pos c22] at H
                      have c22b0 : (t251 == 4) = true := beq_iff_eq.mpr c22
                      have c22b1 : (t251 != 4) = false := bne_eq_false_iff_eq.mpr c22
                      clear c22
                      by_cases c23 : x9_13 = true
                      · subst c23
                        have H1 : (if x8_11 = 1 then (some true) else (if t248 = 1 then (some (x8_11 == (-1))) else (some false))) = some r := by rw [if_pos rfl] at H; exact H
                        clear H
                        have H := H1
                        clear H1
                        by_cases c24 : x8_11 = 1
                        · rw [if_pos c24] at H
                          have c24b0 : (x8_11 == 1) = true := beq_iff_eq.mpr c24
                          have c24b1 : (x8_11 != 1) = false := bne_eq_false_iff_eq.mpr c24
                          clear c24
                          obtain rfl := Option.some.inj H
                          go_wp2_with (first | ((with_reducible refine gate_callee (f := 39) rfl ?_); refine goesL_ (some 53) rfl rfl Try.func39 (by kernel_rfl) rfl #[.int .i64 a0] rfl (by (try simp only [List.map_toArray, List.map_cons, List.map_nil]); first | done | rfl | (simp only [List.length_drop, List.length_take]; rfl)) ?_; (with_reducible refine (kakugyoref02_Kind.calls a0 t251 _ A17.out).mono ?_); rintro e w' ⟨rfl, ⟨nd, rfl⟩⟩; refine ⟨_, rfl, ?_⟩))
                          go_ret
                          exact ⟨by first | rfl | (simp; done) | (simp [*]; done), by repeat (first | exact Drawn0.refl _ | apply Drawn0.step)⟩
                        · rw [if_neg c24] at H
                          have c24b0 : (x8_11 == 1) = false := beq_eq_false_iff_ne.mpr c24
                          have c24b1 : (x8_11 != 1) = true := bne_iff_ne.mpr c24
                          by_cases c25 : t248 = 1
                          · rw [if_pos c25] at H
                            have c25b0 : (t248 == 1) = true := beq_iff_eq.mpr c25
                            have c25b1 : (t248 != 1) = false := bne_eq_false_iff_eq.mpr c25
                            clear c25
                            obtain rfl := Option.some.inj H
                            go_wp2_with (first | ((with_reducible refine gate_callee (f := 39) rfl ?_); refine goesL_ (some 53) rfl rfl Try.func39 (by kernel_rfl) rfl #[.int .i64 a0] rfl (by (try simp only [List.map_toArray, List.map_cons, List.map_nil]); first | done | rfl | (simp only [List.length_drop, List.length_take]; rfl)) ?_; (with_reducible refine (kakugyoref02_Kind.calls a0 t251 _ A17.out).mono ?_); rintro e w' ⟨rfl, ⟨nd, rfl⟩⟩; refine ⟨_, rfl, ?_⟩))
                            go_ret
                            exact ⟨by first | rfl | (simp; done) | (simp [*]; done), by repeat (first | exact Drawn0.refl _ | apply Drawn0.step)⟩
                          · rw [if_neg c25] at H
                            have c25b0 : (t248 == 1) = false := beq_eq_false_iff_ne.mpr c25
                            have c25b1 : (t248 != 1) = true := bne_iff_ne.mpr c25
                            obtain rfl := Option.some.inj H
                            go_wp2_with (first | ((with_reducible refine gate_callee (f := 39) rfl ?_); refine goesL_ (some 53) rfl rfl Try.func39 (by kernel_rfl) rfl #[.int .i64 a0] rfl (by (try simp only [List.map_toArray, List.map_cons, List.map_nil]); first | done | rfl | (simp only [List.length_drop, List.length_take]; rfl)) ?_; (with_reducible refine (kakugyoref02_Kind.calls a0 t251 _ A17.out).mono ?_); rintro e w' ⟨rfl, ⟨nd, rfl⟩⟩; refine ⟨_, rfl, ?_⟩))
                            go_ret
                            exact ⟨by first | rfl | (simp; done) | (simp [*]; done), by repeat (first | exact Drawn0.refl _ | apply Drawn0.step)⟩
                      · replace c23 := Bool.eq_false_iff.mpr c23
                        subst c23
                        have H1 : (some false) = some r := by rw [if_neg (show ¬ (false = true) by decide)] at H; exact H
                        clear H
                        have H := H1
                        clear H1
                        obtain rfl := Option.some.inj H
                        go_wp2_with (first | ((with_reducible refine gate_callee (f := 39) rfl ?_); refine goesL_ (some 53) rfl rfl Try.func39 (by kernel_rfl) rfl #[.int .i64 a0] rfl (by (try simp only [List.map_toArray, List.map_cons, List.map_nil]); first | done | rfl | (simp only [List.length_drop, List.length_take]; rfl)) ?_; (with_reducible refine (kakugyoref02_Kind.calls a0 t251 _ A17.out).mono ?_); rintro e w' ⟨rfl, ⟨nd, rfl⟩⟩; refine ⟨_, rfl, ?_⟩))
                        go_ret
                        exact ⟨by first | rfl | (simp; done) | (simp [*]; done), by repeat (first | exact Drawn0.refl _ | apply Drawn0.step)⟩
                    · rw [if_neg c22] at H
                      have c22b0 : (t251 == 4) = false := beq_eq_false_iff_ne.mpr c22
                      have c22b1 : (t251 != 4) = true := bne_iff_ne.mpr c22
                      have HC26 := Aside0.mk H
                      clear H
                      go_upto_if 85 with (first | ((with_reducible refine gate_callee (f := 39) rfl ?_); refine goesL_ (some 53) rfl rfl Try.func39 (by kernel_rfl) rfl #[.int .i64 a0] rfl (by (try simp only [List.map_toArray, List.map_cons, List.map_nil]); first | done | rfl | (simp only [List.length_drop, List.length_take]; rfl)) ?_; (with_reducible refine (kakugyoref02_Kind.calls a0 t251 _ A17.out).mono ?_); rintro e w' ⟨rfl, ⟨nd, rfl⟩⟩; refine ⟨_, rfl, ?_⟩))
                      (try simp only [Act.put, List.setIfInBounds_toArray, List.set_cons_zero, List.set_cons_succ])
                      go_cut [85] (fun v85 wc => ∃ (kq : Nat) (x85_25 : Bool), v85 = .bool x85_25 ∧ Aside0 (kakugyoref03_Step.j3 kq t248 x8_11 x9_13 t251 x85_25 = some r) ∧ Aside0 (kq ≤ kj13) ∧ Drawn0 w wc)
                      case first =>
                        have H := HC26.out
                        clear HC26
                        by_cases c27 : t251 = 5
                        · rw [if_pos c27] at H
                          have c27b0 : (t251 == 5) = true := beq_iff_eq.mpr c27
                          have c27b1 : (t251 != 5) = false := bne_eq_false_iff_eq.mpr c27
                          clear c27
                          (first | rw [c27b0] | (simp only [i64_w, i32_w]; rw [c27b0]) | skip)
                          have H' := Aside0.mk H
                          clear H
                          go_wp2
                          go_meet
                          case rel => exact ⟨_, ((t251 == 5)), (by first | rfl | (simp; done) | (simp [*]; done)), H', ⟨by have := HJ3.out; have := HJ11.out; have := HJ13.out; first | omega | exact Nat.le_refl _⟩, by repeat (first | exact Drawn0.refl _ | apply Drawn0.step)⟩
                        · rw [if_neg c27] at H
                          have c27b0 : (t251 == 5) = false := beq_eq_false_iff_ne.mpr c27
                          have c27b1 : (t251 != 5) = true := bne_iff_ne.mpr c27
                          (first | rw [c27b0] | (simp only [i64_w, i32_w]; rw [c27b0]) | skip)
                          by_cases c28 : t251 = 9
                          · rw [if_pos c28] at H
                            have c28b0 : (t251 == 9) = true := beq_iff_eq.mpr c28
                            have c28b1 : (t251 != 9) = false := bne_eq_false_iff_eq.mpr c28
                            clear c28
                            have H' := Aside0.mk H
                            clear H
                            go_wp2
                            go_meet
                            case rel => exact ⟨_, ((t251 == 9)), (by first | rfl | (simp; done) | (simp [*]; done)), H', ⟨by have := HJ3.out; have := HJ11.out; have := HJ13.out; first | omega | exact Nat.le_refl _⟩, by repeat (first | exact Drawn0.refl _ | apply Drawn0.step)⟩
                          · rw [if_neg c28] at H
                            have c28b0 : (t251 == 9) = false := beq_eq_false_iff_ne.mpr c28
                            have c28b1 : (t251 != 9) = true := bne_iff_ne.mpr c28
                            by_cases c29 : t251 = 10
                            · rw [if_pos c29] at H
                              have c29b0 : (t251 == 10) = true := beq_iff_eq.mpr c29
                              have c29b1 : (t251 != 10) = false := bne_eq_false_iff_eq.mpr c29
                              clear c29
                              have H' := Aside0.mk H
                              clear H
                              go_wp2
                              go_meet
                              case rel => exact ⟨_, ((t251 == 10)), (by first | rfl | (simp; done) | (simp [*]; done)), H', ⟨by have := HJ3.out; have := HJ11.out; have := HJ13.out; first | omega | exact Nat.le_refl _⟩, by repeat (first | exact Drawn0.refl _ | apply Drawn0.step)⟩
                            · rw [if_neg c29] at H
                              have c29b0 : (t251 == 10) = false := beq_eq_false_iff_ne.mpr c29
                              have c29b1 : (t251 != 10) = true := bne_iff_ne.mpr c29
                              by_cases c30 : t251 = 11
                              · rw [if_pos c30] at H
                                have c30b0 : (t251 == 11) = true := beq_iff_eq.mpr c30
                                have c30b1 : (t251 != 11) = false := bne_eq_false_iff_eq.mpr c30
                                clear c30
                                have H' := Aside0.mk H
                                clear H
                                go_wp2
                                go_meet
                                case rel => exact ⟨_, ((t251 == 11)), (by first | rfl | (simp; done) | (simp [*]; done)), H', ⟨by have := HJ3.out; have := HJ11.out; have := HJ13.out; first | omega | exact Nat.le_refl _⟩, by repeat (first | exact Drawn0.refl _ | apply Drawn0.step)⟩
                              · rw [if_neg c30] at H
                                have c30b0 : (t251 == 11) = false := beq_eq_false_iff_ne.mpr c30
                                have c30b1 : (t251 != 11) = true := bne_iff_ne.mpr c30
                                have H' := Aside0.mk H
                                clear H
                                go_wp2
                                go_meet
                                case rel => exact ⟨_, ((t251 == 12)), (by first | rfl | (simp; done) | (simp [*]; done)), H', ⟨by have := HJ3.out; have := HJ11.out; have := HJ13.out; first | omega | exact Nat.le_refl _⟩, by repeat (first | exact Drawn0.refl _ | apply Drawn0.step)⟩
                      case rest =>
                        clear HC26
                        try clear c1
                        try clear c2
                        try clear p2
                        try clear c3
                        try clear c5
                        try clear c5b0
                        try clear c6
                        try clear c6b0
                        try clear p6
                        try clear c7
                        try clear c7b0
                        try clear c8
                        try clear c8b0
                        try clear c9
                        try clear c11
                        try clear c13
                        try clear c13b0
                        try clear c13b1
                        try clear c15
                        try clear c15b0
                        try clear c18
                        try clear c18b0
                        try clear c18b1
                        try clear c19
                        try clear c19b0
                        try clear c19b1
                        try clear c20
                        try clear c20b0
                        try clear c20b1
                        try clear c21
                        try clear c21b0
                        try clear c21b1
                        try clear c22
                        try clear c22b0
                        try clear c22b1
                        try clear c23
                        try clear c24
                        try clear c24b0
                        try clear c24b1
                        try clear c25
                        try clear c25b0
                        try clear c25b1
                        try clear c27
                        try clear c27b0
                        try clear c27b1
                        try clear c28
                        try clear c28b0
                        try clear c28b1
                        try clear c29
                        try clear c29b0
                        try clear c29b1
                        try clear c30
                        try clear c30b0
                        try clear c30b1
                        try clear p2
                        try clear p6
                        obtain ⟨kq, x85_25, rfl, HA, HJ25, ⟨mc25, rfl⟩⟩ := hcut
                        cases kq with
                        | zero => exact absurd HA.out (by simp [kakugyoref03_Step.j3])
                        | succ kj25 =>
                          have H := HA.out
                          clear HA
                          simp only [kakugyoref03_Step.j3] at H
                          by_cases c31 : x85_25 = true
                          · subst c31
                            have H1 : (if x9_13 = true then (if x8_11 ≥ 0 then (some true) else (some (t248 == 0))) else (some false)) = some r := by rw [if_pos rfl] at H; exact H
                            clear H
                            have H := H1
                            clear H1
                            by_cases c32 : x9_13 = true
                            · subst c32
                              have H1 : (if x8_11 ≥ 0 then (some true) else (some (t248 == 0))) = some r := by rw [if_pos rfl] at H; exact H
                              clear H
                              have H := H1
                              clear H1
                              by_cases c33 : x8_11 ≥ 0
                              · rw [if_pos c33] at H
                                have c33b0 : decide (0 ≤ x8_11) = true := decide_eq_true c33
                                clear c33
                                obtain rfl := Option.some.inj H
                                go_wp2
                                go_ret
                                exact ⟨by first | rfl | (simp; done) | (simp [*]; done), by repeat (first | exact Drawn0.refl _ | apply Drawn0.step)⟩
                              · rw [if_neg c33] at H
                                have c33b0 : decide (0 ≤ x8_11) = false := decide_eq_false c33
                                clear c33
                                obtain rfl := Option.some.inj H
                                go_wp2
                                go_ret
                                exact ⟨by first | rfl | (simp; done) | (simp [*]; done), by repeat (first | exact Drawn0.refl _ | apply Drawn0.step)⟩
                            · replace c32 := Bool.eq_false_iff.mpr c32
                              subst c32
                              have H1 : (some false) = some r := by rw [if_neg (show ¬ (false = true) by decide)] at H; exact H
                              clear H
                              have H := H1
                              clear H1
                              obtain rfl := Option.some.inj H
                              go_wp2
                              go_ret
                              exact ⟨by first | rfl | (simp; done) | (simp [*]; done), by repeat (first | exact Drawn0.refl _ | apply Drawn0.step)⟩
                          · replace c31 := Bool.eq_false_iff.mpr c31
                            subst c31
                            have H1 : (if t251 = 8 then (some x9_13) else (if t251 = 14 then (if x9_13 = true then (if t248 = 0 then (some true) else (some (x8_11 == 0))) else (some false)) else (if t251 = 15 then (if x9_13 = true then (if t248 = 1 then (some (x8_11 != 0)) else (some false)) else (some false)) else (some false)))) = some r := by rw [if_neg (show ¬ (false = true) by decide)] at H; exact H
                            clear H
                            have H := H1
                            clear H1
                            by_cases c34 : t251 = 8
                            · rw [if_pos c34] at H
                              have c34b0 : (t251 == 8) = true := beq_iff_eq.mpr c34
                              have c34b1 : (t251 != 8) = false := bne_eq_false_iff_eq.mpr c34
                              clear c34
                              obtain rfl := Option.some.inj H
                              go_wp2
                              go_ret
                              exact ⟨by first | rfl | (simp; done) | (simp [*]; done), by repeat (first | exact Drawn0.refl _ | apply Drawn0.step)⟩
                            · rw [if_neg c34] at H
                              have c34b0 : (t251 == 8) = false := beq_eq_false_iff_ne.mpr c34
                              have c34b1 : (t251 != 8) = true := bne_iff_ne.mpr c34
                              by_cases c35 : t251 = 14
                              · rw [if_pos c35] at H
                                have c35b0 : (t251 == 14) = true := beq_iff_eq.mpr c35
                                have c35b1 : (t251 != 14) = false := bne_eq_false_iff_eq.mpr c35
                                clear c35
                                by_cases c36 : x9_13 = true
                                · subst c36
                                  have H1 : (if t248 = 0 then (some true) else (some (x8_11 == 0))) = some r := by rw [if_pos rfl] at H; exact H
                                  clear H
                                  have H := H1
                                  clear H1
                                  by_cases c37 : t248 = 0
                                  · rw [if_pos c37] at H
                                    have c37b0 : (t248 == 0) = true := beq_iff_eq.mpr c37
                                    have c37b1 : (t248 != 0) = false := bne_eq_false_iff_eq.mpr c37
                                    clear c37
                                    obtain rfl := Option.some.inj H
                                    go_wp2
                                    go_ret
                                    exact ⟨by first | rfl | (simp; done) | (simp [*]; done), by repeat (first | exact Drawn0.refl _ | apply Drawn0.step)⟩
                                  · rw [if_neg c37] at H
                                    have c37b0 : (t248 == 0) = false := beq_eq_false_iff_ne.mpr c37
                                    have c37b1 : (t248 != 0) = true := bne_iff_ne.mpr c37
                                    obtain rfl := Option.some.inj H
                                    go_wp2
                                    go_ret
                                    exact ⟨by first | rfl | (simp; done) | (simp [*]; done), by repeat (first | exact Drawn0.refl _ | apply Drawn0.step)⟩
                                · replace c36 := Bool.eq_false_iff.mpr c36
                                  subst c36
                                  have H1 : (some false) = some r := by rw [if_neg (show ¬ (false = true) by decide)] at H; exact H
                                  clear H
                                  have H := H1
                                  clear H1
                                  obtain rfl := Option.some.inj H
                                  go_wp2
                                  go_ret
                                  exact ⟨by first | rfl | (simp; done) | (simp [*]; done), by repeat (first | exact Drawn0.refl _ | apply Drawn0.step)⟩
                              · rw [if_neg c35] at H
                                have c35b0 : (t251 == 14) = false := beq_eq_false_iff_ne.mpr c35
                                have c35b1 : (t251 != 14) = true := bne_iff_ne.mpr c35
                                by_cases c38 : t251 = 15
                                · rw [if_pos c38] at H
                                  have c38b0 : (t251 == 15) = true := beq_iff_eq.mpr c38
                                  have c38b1 : (t251 != 15) = false := bne_eq_false_iff_eq.mpr c38
                                  clear c38
                                  by_cases c39 : x9_13 = true
                                  · subst c39
                                    have H1 : (if t248 = 1 then (some (x8_11 != 0)) else (some false)) = some r := by rw [if_pos rfl] at H; exact H
                                    clear H
                                    have H := H1
                                    clear H1
                                    by_cases c40 : t248 = 1
                                    · rw [if_pos c40] at H
                                      have c40b0 : (t248 == 1) = true := beq_iff_eq.mpr c40
                                      have c40b1 : (t248 != 1) = false := bne_eq_false_iff_eq.mpr c40
                                      clear c40
                                      obtain rfl := Option.some.inj H
                                      go_wp2
                                      go_ret
                                      exact ⟨by first | rfl | (simp; done) | (simp [*]; done), by repeat (first | exact Drawn0.refl _ | apply Drawn0.step)⟩
                                    · rw [if_neg c40] at H
                                      have c40b0 : (t248 == 1) = false := beq_eq_false_iff_ne.mpr c40
                                      have c40b1 : (t248 != 1) = true := bne_iff_ne.mpr c40
                                      obtain rfl := Option.some.inj H
                                      go_wp2
                                      go_ret
                                      exact ⟨by first | rfl | (simp; done) | (simp [*]; done), by repeat (first | exact Drawn0.refl _ | apply Drawn0.step)⟩
                                  · replace c39 := Bool.eq_false_iff.mpr c39
                                    subst c39
                                    have H1 : (some false) = some r := by rw [if_neg (show ¬ (false = true) by decide)] at H; exact H
                                    clear H
                                    have H := H1
                                    clear H1
                                    obtain rfl := Option.some.inj H
                                    go_wp2
                                    go_ret
                                    exact ⟨by first | rfl | (simp; done) | (simp [*]; done), by repeat (first | exact Drawn0.refl _ | apply Drawn0.step)⟩
                                · rw [if_neg c38] at H
                                  have c38b0 : (t251 == 15) = false := beq_eq_false_iff_ne.mpr c38
                                  have c38b1 : (t251 != 15) = true := bne_iff_ne.mpr c38
                                  obtain rfl := Option.some.inj H
                                  go_wp2
                                  go_ret
                                  exact ⟨by first | rfl | (simp; done) | (simp [*]; done), by repeat (first | exact Drawn0.refl _ | apply Drawn0.step)⟩

/-! ### set_All: function 24 -/
def set_All.f  : Option (Int × Int) := some (9223372036854775807, 262143)
set_option maxHeartbeats 8000000 in
set_option maxRecDepth 100000 in
theorem set_All.calls  (r1 : Int) (r2 : Int) (w : World) (h : set_All.f  = some (r1, r2)) :
    Calls Try.prog 24 #[] w fun e w' => e = .returned (.agg #[.int .u64 r1, .int .u64 r2]) ∧ Below w.heap.size w w' := by
  have hu30 := Try.underlying30
  have HB := Aside0.mk (Below.refl w.heap.size w)
  have H : (some (9223372036854775807, 262143)) = some (r1, r2) := h
  clear h
  simp only [Option.some.injEq, Prod.mk.injEq] at H
  obtain ⟨rfl, rfl⟩ := H
  go_enter Try.func24, Try.ntmps24
  go_wp2_with (first | ((with_reducible refine gate_dst (N := 0) rfl ?_); refine box_event ?hg (N := 0) ?hd (cs := #[.int .u64 0, .int .u64 0]) (t := 30) ?hr ?_; (case hd => rfl); (case hg => rfl); (case hr => first | (go_simp; done) | (go_simp; rfl)); intro gb252 hg w1 hbox hb; have n0_ := Aside0.mk (below_step (by repeat (first | (with_reducible first | exact HB.out | apply below_alloc | apply pw_below_drewN | apply below_drew1) | exact HB.out)) hb); have n1_ := Aside0.mk (hbox); have n2_ := Aside0.mk ((by rw [hg]; exact (below_size (by repeat (first | (with_reducible first | exact HB.out | apply below_alloc | apply pw_below_drewN | apply below_drew1) | exact HB.out))) : w.heap.size ≤ gb252)); have n3_ := Aside0.mk ((by rw [hg]; exact (below_size (by repeat (first | (with_reducible first | exact HB.out | apply below_alloc | apply pw_below_drewN | apply below_drew1) | exact HB.out))) : w.heap.size ≤ gb252)); clear HB; have HB := n0_; have BK252 := n1_; have GW252 := n2_; have GE252 := n3_; clear n0_ n1_ n2_ n3_; clear hb hbox hg; have hcz2_0 : w1.cell? ⟨gb252, 0, none⟩ = some (.int .u64 0) := (blk_cell BK252.out 0).trans rfl; have hcz2_1 : w1.cell? ⟨gb252, 1, none⟩ = some (.int .u64 0) := (blk_cell BK252.out 1).trans rfl; have hfz2_0 := blk_frozen BK252.out 0; have hfz2_1 := blk_frozen BK252.out 1))
  refine bodyPost_ret (results_cell_row rfl _ _ gb252 30 #[.int .u64 9223372036854775807, .int .u64 262143] (0, 0) _ rfl (by (with_reducible repeat (first | refine blk_drewN ?_ _ | refine blk_drew ?_ | refine blk_alloc ?_ _)); refine blk_put (cs := #[.int .u64 9223372036854775807, .int .u64 0]) ?_ 1 _ rfl; (with_reducible repeat (first | refine blk_drewN ?_ _ | refine blk_drew ?_ | refine blk_alloc ?_ _)); refine blk_put (cs := #[.int .u64 0, .int .u64 0]) ?_ 0 _ rfl; (with_reducible repeat (first | refine blk_drewN ?_ _ | refine blk_drew ?_ | refine blk_alloc ?_ _)); exact BK252.out) Try.underlying30 rfl (by kernel_rfl)) rfl ?_
  exact ⟨by first | rfl | (simp [errW_none, errW_some] <;> rfl) | (simp [*, errW_none, errW_some] <;> rfl) | (simp [*, errW_none, errW_some]; generalize ByteArray.toList _ = q_; cases q_ <;> rfl), by repeat (first | (with_reducible first | exact HB.out | apply below_alloc | apply pw_below_drewN | apply below_drew1 | refine below_set ?_ GE252.out) | exact HB.out)⟩

end Go.Proofs.Ytmoeodcmfjnihaa.Pa
