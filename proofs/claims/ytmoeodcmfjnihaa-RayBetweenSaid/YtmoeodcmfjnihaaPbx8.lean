-- Printed by a program of this session: the kit's printer, with contracts of this session's own among its functions.
import Derived.Test.YtmoeodcmfjnihaaPbx0
namespace Go.Proofs.Ytmoeodcmfjnihaa.Pb
open Go.RowKit Go.Proofs.YtmoeodcmfjnihaaW.PrintWords Go.Proofs.YtmoeodcmfjnihaaW.PrintLast Go.Proofs.YtmoeodcmfjnihaaW.PrintMore
attribute [local go_sem] max2_int min2_int max_two min_two max_three min_three max_four min_four   -- for this text's walks alone
set_option linter.unusedVariables false
set_option linter.unusedSimpArgs false

/-! ### kakugyoref04_Line: function 44 -/
mutual
def kakugyoref04_Line.j0 : Nat → Int → Int → Bool → Option (Int)
  | 0, _, _, _ => none
  | k + 1, x0, x1, x25 => if x25 = true then (some 0) else (if (wrap64 ((wrap64 (Int.tdiv x1 9)) - (wrap64 (Int.tdiv x0 9)))) = 0 then (kakugyoref04_Line.j1 k (wrap64 ((wrap64 (Int.tdiv x1 9)) - (wrap64 (Int.tdiv x0 9)))) (wrap64 ((Int.tmod x1 9) - (Int.tmod x0 9))) true) else (kakugyoref04_Line.j1 k (wrap64 ((wrap64 (Int.tdiv x1 9)) - (wrap64 (Int.tdiv x0 9)))) (wrap64 ((Int.tmod x1 9) - (Int.tmod x0 9))) ((wrap64 ((Int.tmod x1 9) - (Int.tmod x0 9))) == 0)))
def kakugyoref04_Line.j1 : Nat → Int → Int → Bool → Option (Int)
  | 0, _, _, _ => none
  | k + 1, x5, x6, x41 => if x41 = true then (some 1) else (if x5 = x6 then (some 2) else (if x5 = (wrap64 (-x6)) then (some 2) else (some 0)))
end
def kakugyoref04_Line.f (k : Nat) (a0 : Int) (a1 : Int) : Option (Int) := if a0 < 0 then (kakugyoref04_Line.j0 k a0 a1 true) else (if a0 > 80 then (kakugyoref04_Line.j0 k a0 a1 true) else (if a1 < 0 then (kakugyoref04_Line.j0 k a0 a1 true) else (if a1 > 80 then (kakugyoref04_Line.j0 k a0 a1 true) else (kakugyoref04_Line.j0 k a0 a1 (a0 == a1)))))
theorem kakugyoref04_Line.mono_l : ∀ k, (∀ y0 y1 y2, LeO (kakugyoref04_Line.j0 k y0 y1 y2) (kakugyoref04_Line.j0 (k + 1) y0 y1 y2)) ∧ (∀ y0 y1 y2, LeO (kakugyoref04_Line.j1 k y0 y1 y2) (kakugyoref04_Line.j1 (k + 1) y0 y1 y2))
  | 0 => ⟨fun _ _ _ r h => by simp [kakugyoref04_Line.j0] at h, fun _ _ _ r h => by simp [kakugyoref04_Line.j1] at h⟩
  | k + 1 => by
    obtain ⟨ih0, ih1⟩ := kakugyoref04_Line.mono_l k
    refine ⟨?_, ?_⟩
    · intro y0 y1 y2
      unfold kakugyoref04_Line.j0
      repeat' first
      | (with_reducible exact ih0 _ _ _)
      | (with_reducible exact ih1 _ _ _)
      | (with_reducible exact LeO.refl _)
      | (with_reducible exact LeO.none _)
      | (with_reducible refine LeO.ite ?_ ?_)
      | (with_reducible refine LeO.bind ?_ (fun _ => ?_))
      | exact ih0 _ _ _
      | exact ih1 _ _ _
      | exact LeO.none _
      | refine LeO.ite ?_ ?_
      | refine LeO.bind ?_ (fun _ => ?_)
    · intro y0 y1 y2
      unfold kakugyoref04_Line.j1
      repeat' first
      | (with_reducible exact ih0 _ _ _)
      | (with_reducible exact ih1 _ _ _)
      | (with_reducible exact LeO.refl _)
      | (with_reducible exact LeO.none _)
      | (with_reducible refine LeO.ite ?_ ?_)
      | (with_reducible refine LeO.bind ?_ (fun _ => ?_))
      | exact ih0 _ _ _
      | exact ih1 _ _ _
      | exact LeO.none _
      | refine LeO.ite ?_ ?_
      | refine LeO.bind ?_ (fun _ => ?_)
theorem kakugyoref04_Line.mono : ∀ a0 a1 k, LeO (kakugyoref04_Line.f k a0 a1) (kakugyoref04_Line.f (k + 1) a0 a1) := by
  intro a0 a1 k
  obtain ⟨ih0, ih1⟩ := kakugyoref04_Line.mono_l k
  unfold kakugyoref04_Line.f
  repeat' first
      | (with_reducible exact ih0 _ _ _)
      | (with_reducible exact ih1 _ _ _)
      | (with_reducible exact LeO.refl _)
      | (with_reducible exact LeO.none _)
      | (with_reducible refine LeO.ite ?_ ?_)
      | (with_reducible refine LeO.bind ?_ (fun _ => ?_))
      | exact ih0 _ _ _
      | exact ih1 _ _ _
      | exact LeO.none _
      | refine LeO.ite ?_ ?_
      | refine LeO.bind ?_ (fun _ => ?_)
set_option maxHeartbeats 8000000 in
set_option maxRecDepth 100000 in
theorem kakugyoref04_Line.calls (k : Nat) (a0 : Int) (a1 : Int) (r : Int) (w : World) (h : kakugyoref04_Line.f k a0 a1 = some r) :
    Calls Try.prog 44 #[.int .i64 a0, .int .i64 a1] w fun e w' => e = .returned (.int .i64 r) ∧ Drawn0 w w' := by
  have H : (if a0 < 0 then (kakugyoref04_Line.j0 k a0 a1 true) else (if a0 > 80 then (kakugyoref04_Line.j0 k a0 a1 true) else (if a1 < 0 then (kakugyoref04_Line.j0 k a0 a1 true) else (if a1 > 80 then (kakugyoref04_Line.j0 k a0 a1 true) else (kakugyoref04_Line.j0 k a0 a1 (a0 == a1)))))) = some r := h
  clear h
  have HC3 := Aside0.mk H
  clear H
  go_enter Try.func44, Try.ntmps44
  go_upto_region 1 with (fail)
  go_cut [25] (fun v25 wc => ∃ (kq : Nat) (x25_2 : Bool), v25 = .bool x25_2 ∧ Aside0 (kakugyoref04_Line.j0 kq a0 a1 x25_2 = some r) ∧ Aside0 (kq ≤ k) ∧ Drawn0 w wc)
  case first =>
    have H := HC3.out
    clear HC3
    by_cases c4 : a0 < 0
    · rw [if_pos c4] at H
      have c4b0 : decide (a0 < 0) = true := decide_eq_true c4
      clear c4
      (first | rw [c4b0] | (simp only [i64_w, i32_w]; rw [c4b0]) | skip)
      have H' := Aside0.mk H
      clear H
      go_wp2
      go_meet
      case rel => exact ⟨_, (true), (by first | rfl | (simp; done) | (simp [*]; done)), H', ⟨by first | omega | exact Nat.le_refl _⟩, by repeat (first | exact Drawn0.refl _ | apply Drawn0.step)⟩
    · rw [if_neg c4] at H
      have c4b0 : decide (a0 < 0) = false := decide_eq_false c4
      clear c4
      (first | rw [c4b0] | (simp only [i64_w, i32_w]; rw [c4b0]) | skip)
      by_cases c5 : a0 > 80
      · rw [if_pos c5] at H
        have c5b0 : decide (80 < a0) = true := decide_eq_true c5
        clear c5
        have H' := Aside0.mk H
        clear H
        go_wp2
        go_meet
        case rel => exact ⟨_, (true), (by first | rfl | (simp; done) | (simp [*]; done)), H', ⟨by first | omega | exact Nat.le_refl _⟩, by repeat (first | exact Drawn0.refl _ | apply Drawn0.step)⟩
      · rw [if_neg c5] at H
        have c5b0 : decide (80 < a0) = false := decide_eq_false c5
        clear c5
        by_cases c6 : a1 < 0
        · rw [if_pos c6] at H
          have c6b0 : decide (a1 < 0) = true := decide_eq_true c6
          clear c6
          have H' := Aside0.mk H
          clear H
          go_wp2
          go_meet
          case rel => exact ⟨_, (true), (by first | rfl | (simp; done) | (simp [*]; done)), H', ⟨by first | omega | exact Nat.le_refl _⟩, by repeat (first | exact Drawn0.refl _ | apply Drawn0.step)⟩
        · rw [if_neg c6] at H
          have c6b0 : decide (a1 < 0) = false := decide_eq_false c6
          clear c6
          by_cases c7 : a1 > 80
          · rw [if_pos c7] at H
            have c7b0 : decide (80 < a1) = true := decide_eq_true c7
            clear c7
            have H' := Aside0.mk H
            clear H
            go_wp2
            go_meet
            case rel => exact ⟨_, (true), (by first | rfl | (simp; done) | (simp [*]; done)), H', ⟨by first | omega | exact Nat.le_refl _⟩, by repeat (first | exact Drawn0.refl _ | apply Drawn0.step)⟩
          · rw [if_neg c7] at H
            have c7b0 : decide (80 < a1) = false := decide_eq_false c7
            clear c7
            have H' := Aside0.mk H
            clear H
            go_wp2
            go_meet
            case rel => exact ⟨_, ((a0 == a1)), (by first | rfl | (simp; done) | (simp [*]; done)), H', ⟨by first | omega | exact Nat.le_refl _⟩, by repeat (first | exact Drawn0.refl _ | apply Drawn0.step)⟩
  case rest =>
    clear HC3
    try clear p2
    try clear c4
    try clear c4b0
    try clear c5
    try clear c5b0
    try clear c6
    try clear c6b0
    try clear c7
    try clear c7b0
    obtain ⟨kq, x25_2, rfl, HA, HJ2, ⟨mc2, rfl⟩⟩ := hcut
    cases kq with
    | zero => exact absurd HA.out (by simp [kakugyoref04_Line.j0])
    | succ kj2 =>
      have H := HA.out
      clear HA
      simp only [kakugyoref04_Line.j0] at H
      by_cases c8 : x25_2 = true
      · subst c8
        have H1 : (some 0) = some r := by rw [if_pos rfl] at H; exact H
        clear H
        have H := H1
        clear H1
        obtain rfl := Option.some.inj H
        go_wp2
        go_ret
        exact ⟨by first | rfl | (simp; done) | (simp [*]; done), by repeat (first | exact Drawn0.refl _ | apply Drawn0.step)⟩
      · replace c8 := Bool.eq_false_iff.mpr c8
        subst c8
        have H1 : (if (wrap64 ((wrap64 (Int.tdiv a1 9)) - (wrap64 (Int.tdiv a0 9)))) = 0 then (kakugyoref04_Line.j1 kj2 (wrap64 ((wrap64 (Int.tdiv a1 9)) - (wrap64 (Int.tdiv a0 9)))) (wrap64 ((Int.tmod a1 9) - (Int.tmod a0 9))) true) else (kakugyoref04_Line.j1 kj2 (wrap64 ((wrap64 (Int.tdiv a1 9)) - (wrap64 (Int.tdiv a0 9)))) (wrap64 ((Int.tmod a1 9) - (Int.tmod a0 9))) ((wrap64 ((Int.tmod a1 9) - (Int.tmod a0 9))) == 0))) = some r := by rw [if_neg (show ¬ (false = true) by decide)] at H; exact H
        clear H
        have H := H1
        clear H1
        have HC9 := Aside0.mk H
        clear H
        go_upto_region 4 with (fail)
        go_cut [41] (fun v41 wc => ∃ (kq : Nat) (x41_8 : Bool), v41 = .bool x41_8 ∧ Aside0 (kakugyoref04_Line.j1 kq (wrap64 ((wrap64 (Int.tdiv a1 9)) - (wrap64 (Int.tdiv a0 9)))) (wrap64 ((Int.tmod a1 9) - (Int.tmod a0 9))) x41_8 = some r) ∧ Aside0 (kq ≤ kj2) ∧ Drawn0 w wc)
        case first =>
          have H := HC9.out
          clear HC9
          by_cases c10 : (wrap64 ((wrap64 (Int.tdiv a1 9)) - (wrap64 (Int.tdiv a0 9)))) = 0
          · rw [if_pos c10] at H
            have c10b0 : ((wrap64 ((wrap64 (Int.tdiv a1 9)) - (wrap64 (Int.tdiv a0 9)))) == 0) = true := beq_iff_eq.mpr c10
            have c10b1 : ((wrap64 ((wrap64 (Int.tdiv a1 9)) - (wrap64 (Int.tdiv a0 9)))) != 0) = false := bne_eq_false_iff_eq.mpr c10
            clear c10
            (first | rw [c10b0] | (simp only [i64_w, i32_w]; rw [c10b0]) | skip)
            have H' := Aside0.mk H
            clear H
            go_wp2
            go_meet
            case rel => exact ⟨_, (true), (by first | rfl | (simp; done) | (simp [*]; done)), H', ⟨by have := HJ2.out; first | omega | exact Nat.le_refl _⟩, by repeat (first | exact Drawn0.refl _ | apply Drawn0.step)⟩
          · rw [if_neg c10] at H
            have c10b0 : ((wrap64 ((wrap64 (Int.tdiv a1 9)) - (wrap64 (Int.tdiv a0 9)))) == 0) = false := beq_eq_false_iff_ne.mpr c10
            have c10b1 : ((wrap64 ((wrap64 (Int.tdiv a1 9)) - (wrap64 (Int.tdiv a0 9)))) != 0) = true := bne_iff_ne.mpr c10
            (first | rw [c10b0] | (simp only [i64_w, i32_w]; rw [c10b0]) | skip)
            have H' := Aside0.mk H
            clear H
            go_wp2
            go_meet
            case rel => exact ⟨_, (((wrap64 ((Int.tmod a1 9) - (Int.tmod a0 9))) == 0)), (by first | rfl | (simp; done) | (simp [*]; done)), H', ⟨by have := HJ2.out; first | omega | exact Nat.le_refl _⟩, by repeat (first | exact Drawn0.refl _ | apply Drawn0.step)⟩
        case rest =>
          clear HC9
          try clear c1
          try clear c2
          try clear p2
          try clear c4
          try clear c4b0
          try clear c5
          try clear c5b0
          try clear c6
          try clear c6b0
          try clear p6
          try clear c7
          try clear c7b0
          try clear c8
          try clear c10
          try clear c10b0
          try clear c10b1
          try clear p2
          obtain ⟨kq, x41_8, rfl, HA, HJ8, ⟨mc8, rfl⟩⟩ := hcut
          cases kq with
          | zero => exact absurd HA.out (by simp [kakugyoref04_Line.j1])
          | succ kj8 =>
            have H := HA.out
            clear HA
            simp only [kakugyoref04_Line.j1] at H
            by_cases c11 : x41_8 = true
            · subst c11
              have H1 : (some 1) = some r := by rw [if_pos rfl] at H; exact H
              clear H
              have H := H1
              clear H1
              obtain rfl := Option.some.inj H
              go_wp2
              go_ret
              exact ⟨by first | rfl | (simp; done) | (simp [*]; done), by repeat (first | exact Drawn0.refl _ | apply Drawn0.step)⟩
            · replace c11 := Bool.eq_false_iff.mpr c11
              subst c11
              have H1 : (if (wrap64 ((wrap64 (Int.tdiv a1 9)) - (wrap64 (Int.tdiv a0 9)))) = (wrap64 ((Int.tmod a1 9) - (Int.tmod a0 9))) then (some 2) else (if (wrap64 ((wrap64 (Int.tdiv a1 9)) - (wrap64 (Int.tdiv a0 9)))) = (wrap64 (-(wrap64 ((Int.tmod a1 9) - (Int.tmod a0 9))))) then (some 2) else (some 0))) = some r := by rw [if_neg (show ¬ (false = true) by decide)] at H; exact H
              clear H
              have H := H1
              clear H1
              by_cases c12 : (wrap64 ((wrap64 (Int.tdiv a1 9)) - (wrap64 (Int.tdiv a0 9)))) = (wrap64 ((Int.tmod a1 9) - (Int.tmod a0 9)))
              · rw [if_pos c12] at H
                have c12b0 : ((wrap64 ((wrap64 (Int.tdiv a1 9)) - (wrap64 (Int.tdiv a0 9)))) == (wrap64 ((Int.tmod a1 9) - (Int.tmod a0 9)))) = true := beq_iff_eq.mpr c12
                have c12b1 : ((wrap64 ((wrap64 (Int.tdiv a1 9)) - (wrap64 (Int.tdiv a0 9)))) != (wrap64 ((Int.tmod a1 9) - (Int.tmod a0 9)))) = false := bne_eq_false_iff_eq.mpr c12
                clear c12
                obtain rfl := Option.some.inj H
                go_wp2
                go_ret
                exact ⟨by first | rfl | (simp; done) | (simp [*]; done), by repeat (first | exact Drawn0.refl _ | apply Drawn0.step)⟩
              · rw [if_neg c12] at H
                have c12b0 : ((wrap64 ((wrap64 (Int.tdiv a1 9)) - (wrap64 (Int.tdiv a0 9)))) == (wrap64 ((Int.tmod a1 9) - (Int.tmod a0 9)))) = false := beq_eq_false_iff_ne.mpr c12
                have c12b1 : ((wrap64 ((wrap64 (Int.tdiv a1 9)) - (wrap64 (Int.tdiv a0 9)))) != (wrap64 ((Int.tmod a1 9) - (Int.tmod a0 9)))) = true := bne_iff_ne.mpr c12
                by_cases c13 : (wrap64 ((wrap64 (Int.tdiv a1 9)) - (wrap64 (Int.tdiv a0 9)))) = (wrap64 (-(wrap64 ((Int.tmod a1 9) - (Int.tmod a0 9)))))
                · rw [if_pos c13] at H
                  have c13b0 : ((wrap64 ((wrap64 (Int.tdiv a1 9)) - (wrap64 (Int.tdiv a0 9)))) == (wrap64 (-(wrap64 ((Int.tmod a1 9) - (Int.tmod a0 9)))))) = true := beq_iff_eq.mpr c13
                  have c13b1 : ((wrap64 ((wrap64 (Int.tdiv a1 9)) - (wrap64 (Int.tdiv a0 9)))) != (wrap64 (-(wrap64 ((Int.tmod a1 9) - (Int.tmod a0 9)))))) = false := bne_eq_false_iff_eq.mpr c13
                  clear c13
                  obtain rfl := Option.some.inj H
                  go_wp2
                  go_ret
                  exact ⟨by first | rfl | (simp; done) | (simp [*]; done), by repeat (first | exact Drawn0.refl _ | apply Drawn0.step)⟩
                · rw [if_neg c13] at H
                  have c13b0 : ((wrap64 ((wrap64 (Int.tdiv a1 9)) - (wrap64 (Int.tdiv a0 9)))) == (wrap64 (-(wrap64 ((Int.tmod a1 9) - (Int.tmod a0 9)))))) = false := beq_eq_false_iff_ne.mpr c13
                  have c13b1 : ((wrap64 ((wrap64 (Int.tdiv a1 9)) - (wrap64 (Int.tdiv a0 9)))) != (wrap64 (-(wrap64 ((Int.tmod a1 9) - (Int.tmod a0 9)))))) = true := bne_iff_ne.mpr c13
                  obtain rfl := Option.some.inj H
                  go_wp2
                  go_ret
                  exact ⟨by first | rfl | (simp; done) | (simp [*]; done), by repeat (first | exact Drawn0.refl _ | apply Drawn0.step)⟩

/-! ### kakugyoref04_sign: function 45 -/
def kakugyoref04_sign.f (a0 : Int) : Option (Int) := if a0 < 0 then (some (-1)) else (if a0 > 0 then (some 1) else (some 0))
set_option maxHeartbeats 8000000 in
set_option maxRecDepth 100000 in
theorem kakugyoref04_sign.calls (a0 : Int) (r : Int) (w : World) (h : kakugyoref04_sign.f a0 = some r) :
    Calls Try.prog 45 #[.int .i64 a0] w fun e w' => e = .returned (.int .i64 r) ∧ Drawn0 w w' := by
  have H : (if a0 < 0 then (some (-1)) else (if a0 > 0 then (some 1) else (some 0))) = some r := h
  clear h
  by_cases c2 : a0 < 0
  · rw [if_pos c2] at H
    have c2b0 : decide (a0 < 0) = true := decide_eq_true c2
    clear c2
    obtain rfl := Option.some.inj H
    go_enter Try.func45, Try.ntmps45
    go_wp2
    go_ret
    exact ⟨by first | rfl | (simp; done) | (simp [*]; done), by repeat (first | exact Drawn0.refl _ | apply Drawn0.step)⟩
  · rw [if_neg c2] at H
    have c2b0 : decide (a0 < 0) = false := decide_eq_false c2
    clear c2
    by_cases c3 : a0 > 0
    · rw [if_pos c3] at H
      have c3b0 : decide (0 < a0) = true := decide_eq_true c3
      clear c3
      obtain rfl := Option.some.inj H
      go_enter Try.func45, Try.ntmps45
      go_wp2
      go_ret
      exact ⟨by first | rfl | (simp; done) | (simp [*]; done), by repeat (first | exact Drawn0.refl _ | apply Drawn0.step)⟩
    · rw [if_neg c3] at H
      have c3b0 : decide (0 < a0) = false := decide_eq_false c3
      clear c3
      obtain rfl := Option.some.inj H
      go_enter Try.func45, Try.ntmps45
      go_wp2
      go_ret
      exact ⟨by first | rfl | (simp; done) | (simp [*]; done), by repeat (first | exact Drawn0.refl _ | apply Drawn0.step)⟩

/-! ### kakugyoref04_Between: function 30 -/
def kakugyoref04_Between.l0 : Nat → Int → List Int → Int → Int → Option (List Int)
  | 0, _, _, _, _ => none
  | k + 1, x1, x5, x6, x7 => if x7 = x1 then (some x5) else (if x5.length < 17592186044416 then (kakugyoref04_Between.l0 k x1 (x5 ++ [x7]) x6 (wrap64 (x7 + x6))) else (none))
def kakugyoref04_Between.f (k : Nat) (a0 : Int) (a1 : Int) : Option (List Int) := (kakugyoref04_Line.f k a0 a1).bind fun t259 => (if t259 = 0 then (some ([] : List Int)) else ((kakugyoref04_sign.f (wrap64 ((wrap64 (Int.tdiv a1 9)) - (wrap64 (Int.tdiv a0 9))))).bind fun t260 => ((kakugyoref04_sign.f (wrap64 ((Int.tmod a1 9) - (Int.tmod a0 9)))).bind fun t261 => (kakugyoref04_Between.l0 k a1 ([] : List Int) (wrap64 ((wrap64 (9 * t260)) + t261)) (wrap64 (a0 + (wrap64 ((wrap64 (9 * t260)) + t261))))))))
theorem kakugyoref04_Between.mono_l : ∀ k, (∀ y0 y1 y2 y3, LeO (kakugyoref04_Between.l0 k y0 y1 y2 y3) (kakugyoref04_Between.l0 (k + 1) y0 y1 y2 y3))
  | 0 => fun _ _ _ _ r h => by simp [kakugyoref04_Between.l0] at h
  | k + 1 => by
    have ih0 := kakugyoref04_Between.mono_l k
    · intro y0 y1 y2 y3
      unfold kakugyoref04_Between.l0
      repeat' first
      | (with_reducible exact ih0 _ _ _ _)
      | (with_reducible exact kakugyoref04_Line.mono _ _ _)
      | (with_reducible exact LeO.refl _)
      | (with_reducible exact LeO.none _)
      | (with_reducible refine LeO.ite ?_ ?_)
      | (with_reducible refine LeO.bind ?_ (fun _ => ?_))
      | exact ih0 _ _ _ _
      | exact kakugyoref04_Line.mono _ _ _
      | exact LeO.none _
      | refine LeO.ite ?_ ?_
      | refine LeO.bind ?_ (fun _ => ?_)
theorem kakugyoref04_Between.mono : ∀ a0 a1 k, LeO (kakugyoref04_Between.f k a0 a1) (kakugyoref04_Between.f (k + 1) a0 a1) := by
  intro a0 a1 k
  have ih0 := kakugyoref04_Between.mono_l k
  unfold kakugyoref04_Between.f
  repeat' first
      | (with_reducible exact ih0 _ _ _ _)
      | (with_reducible exact kakugyoref04_Line.mono _ _ _)
      | (with_reducible exact LeO.refl _)
      | (with_reducible exact LeO.none _)
      | (with_reducible refine LeO.ite ?_ ?_)
      | (with_reducible refine LeO.bind ?_ (fun _ => ?_))
      | exact ih0 _ _ _ _
      | exact kakugyoref04_Line.mono _ _ _
      | exact LeO.none _
      | refine LeO.ite ?_ ?_
      | refine LeO.bind ?_ (fun _ => ?_)
set_option maxHeartbeats 8000000 in
set_option maxRecDepth 100000 in
theorem kakugyoref04_Between.calls (k : Nat) (a0 : Int) (a1 : Int) (r : List Int) (w : World) (h : kakugyoref04_Between.f k a0 a1 = some r) :
    Calls Try.prog 30 #[.int .i64 a0, .int .i64 a1] w fun e w' => ∃ v0_ : Value, e = .returned (v0_) ∧ Kd.R (Kd.int .i64) 3 w' w.heap.size (fun _ => True) v0_ r ∧ Below w.heap.size w w' := by
  have HB := Aside0.mk (Below.refl w.heap.size w)
  have H : ((kakugyoref04_Line.f k a0 a1).bind fun t259 => (if t259 = 0 then (some ([] : List Int)) else ((kakugyoref04_sign.f (wrap64 ((wrap64 (Int.tdiv a1 9)) - (wrap64 (Int.tdiv a0 9))))).bind fun t260 => ((kakugyoref04_sign.f (wrap64 ((Int.tmod a1 9) - (Int.tmod a0 9)))).bind fun t261 => (kakugyoref04_Between.l0 k a1 ([] : List Int) (wrap64 ((wrap64 (9 * t260)) + t261)) (wrap64 (a0 + (wrap64 ((wrap64 (9 * t260)) + t261))))))))) = some r := h
  clear h
  replace H := Option.bind_eq_some_iff.mp H
  obtain ⟨t259, A30, H⟩ := H
  replace H : (if t259 = 0 then (some ([] : List Int)) else ((kakugyoref04_sign.f (wrap64 ((wrap64 (Int.tdiv a1 9)) - (wrap64 (Int.tdiv a0 9))))).bind fun t260 => ((kakugyoref04_sign.f (wrap64 ((Int.tmod a1 9) - (Int.tmod a0 9)))).bind fun t261 => (kakugyoref04_Between.l0 k a1 ([] : List Int) (wrap64 ((wrap64 (9 * t260)) + t261)) (wrap64 (a0 + (wrap64 ((wrap64 (9 * t260)) + t261)))))))) = some r := H
  have A3 := Aside0.mk A30
  clear A30
  by_cases c4 : t259 = 0
  · rw [if_pos c4] at H
    have c4b0 : (t259 == 0) = true := beq_iff_eq.mpr c4
    have c4b1 : (t259 != 0) = false := bne_eq_false_iff_eq.mpr c4
    clear c4
    obtain rfl := Option.some.inj H
    go_enter Try.func30, Try.ntmps30
    go_wp2_with (first | ((with_reducible refine gate_callee (f := 44) rfl ?_); refine goesL_ (some 10) rfl rfl Try.func44 (by kernel_rfl) rfl #[.int .i64 a0, .int .i64 a1] rfl (by (try simp only [List.map_toArray, List.map_cons, List.map_nil]); first | done | rfl | (simp only [List.length_drop, List.length_take]; rfl)) ?_; (with_reducible refine (kakugyoref04_Line.calls k a0 a1 t259 _ A3.out).mono ?_); rintro e w' ⟨rfl, ⟨nd, rfl⟩⟩; refine ⟨_, rfl, ?_⟩))
    go_ret
    exact ⟨_, by first | rfl | (simp [errW_none, errW_some] <;> rfl) | (simp [*, errW_none, errW_some] <;> rfl), by first | exact Kd.R_nil _ _ _ _ _ | exact Kd.N_nil _ _ _ _ _ | exact Kd.V_nil _ _ _ _ _ | exact Kd.Q_nil _ _ _ _ _ | exact Kd.S_nil _ _ _ _ _, by repeat (first | (with_reducible first | exact HB.out | apply below_alloc | apply pw_below_drewN | apply below_drew1) | exact HB.out)⟩
  · rw [if_neg c4] at H
    have c4b0 : (t259 == 0) = false := beq_eq_false_iff_ne.mpr c4
    have c4b1 : (t259 != 0) = true := bne_iff_ne.mpr c4
    replace H := Option.bind_eq_some_iff.mp H
    obtain ⟨t260, A50, H⟩ := H
    replace H : ((kakugyoref04_sign.f (wrap64 ((Int.tmod a1 9) - (Int.tmod a0 9)))).bind fun t261 => (kakugyoref04_Between.l0 k a1 ([] : List Int) (wrap64 ((wrap64 (9 * t260)) + t261)) (wrap64 (a0 + (wrap64 ((wrap64 (9 * t260)) + t261)))))) = some r := H
    have A5 := Aside0.mk A50
    clear A50
    replace H := Option.bind_eq_some_iff.mp H
    obtain ⟨t261, A60, H⟩ := H
    replace H : (kakugyoref04_Between.l0 k a1 ([] : List Int) (wrap64 ((wrap64 (9 * t260)) + t261)) (wrap64 (a0 + (wrap64 ((wrap64 (9 * t260)) + t261))))) = some r := H
    have A6 := Aside0.mk A60
    clear A60
    have H' := Aside0.mk H
    clear H
    go_enter Try.func30, Try.ntmps30
    go_wp2_with (first | ((with_reducible refine gate_callee (f := 44) rfl ?_); refine goesL_ (some 10) rfl rfl Try.func44 (by kernel_rfl) rfl #[.int .i64 a0, .int .i64 a1] rfl (by (try simp only [List.map_toArray, List.map_cons, List.map_nil]); first | done | rfl | (simp only [List.length_drop, List.length_take]; rfl)) ?_; (with_reducible refine (kakugyoref04_Line.calls k a0 a1 t259 _ A3.out).mono ?_); rintro e w' ⟨rfl, ⟨nd, rfl⟩⟩; refine ⟨_, rfl, ?_⟩) | ((with_reducible refine gate_callee (f := 45) rfl ?_); refine goesL_ (some 18) rfl rfl Try.func45 (by kernel_rfl) rfl #[.int .i64 (wrap64 ((wrap64 (Int.tdiv a1 9)) - (wrap64 (Int.tdiv a0 9))))] rfl (by (try simp only [List.map_toArray, List.map_cons, List.map_nil]); first | done | rfl | (simp only [List.length_drop, List.length_take]; rfl)) ?_; (with_reducible refine (kakugyoref04_sign.calls (wrap64 ((wrap64 (Int.tdiv a1 9)) - (wrap64 (Int.tdiv a0 9)))) t260 _ A5.out).mono ?_); rintro e w' ⟨rfl, ⟨nd, rfl⟩⟩; refine ⟨_, rfl, ?_⟩) | ((with_reducible refine gate_callee (f := 45) rfl ?_); refine goesL_ (some 25) rfl rfl Try.func45 (by kernel_rfl) rfl #[.int .i64 (wrap64 ((Int.tmod a1 9) - (Int.tmod a0 9)))] rfl (by (try simp only [List.map_toArray, List.map_cons, List.map_nil]); first | done | rfl | (simp only [List.length_drop, List.length_take]; rfl)) ?_; (with_reducible refine (kakugyoref04_sign.calls (wrap64 ((Int.tmod a1 9) - (Int.tmod a0 9))) t261 _ A6.out).mono ?_); rintro e w' ⟨rfl, ⟨nd, rfl⟩⟩; refine ⟨_, rfl, ?_⟩))
    go_loopg [5, 7] k (fun kq v5 v7 w' => ∃ (x5_1 : List Int) (x7_1 : Int), v7 = .int .i64 x7_1 ∧ Aside0 (kakugyoref04_Between.l0 kq a1 x5_1 (wrap64 ((wrap64 (9 * t260)) + t261)) x7_1 = some r) ∧ Aside0 (kq ≤ k) ∧ Aside0 (Kd.R (Kd.int .i64) 3 w' w.heap.size (fun _ => True) v5 x5_1) ∧ Aside0 (Below w.heap.size w w'))
    case atStart => exact ⟨(([] : List Int)), (wrap64 (a0 + (wrap64 ((wrap64 (9 * t260)) + t261)))), (by first | rfl | (simp; done) | (simp [*]; done)), H', ⟨Nat.le_refl _⟩, ⟨by first | exact Kd.R_nil _ _ _ _ _ | exact Kd.N_nil _ _ _ _ _ | exact Kd.V_nil _ _ _ _ _ | exact Kd.Q_nil _ _ _ _ _ | exact Kd.S_nil _ _ _ _ _⟩, ⟨by repeat (first | (with_reducible first | exact HB.out | apply below_alloc | apply pw_below_drewN | apply below_drew1) | exact HB.out)⟩⟩
    case round =>
      clear H'
      try clear p2
      try clear c3
      try clear c4
      try clear c4b0
      try clear c4b1
      try clear p6
      obtain ⟨x5_1, x7_1, rfl, HA, HK1, HO_5, HB⟩ := hrel
      cases gk with
      | zero => exact absurd HA.out (by simp [kakugyoref04_Between.l0])
      | succ k1 =>
        have H := HA.out
        clear HA
        simp only [kakugyoref04_Between.l0] at H
        by_cases c7 : x7_1 = a1
        · rw [if_pos c7] at H
          have c7b0 : (x7_1 == a1) = true := beq_iff_eq.mpr c7
          have c7b1 : (x7_1 != a1) = false := bne_eq_false_iff_eq.mpr c7
          clear c7
          obtain rfl := Option.some.inj H
          go_wp2
          go_ret
          exact ⟨_, by first | rfl | (simp [errW_none, errW_some] <;> rfl) | (simp [*, errW_none, errW_some] <;> rfl), by (with_reducible repeat (first | apply Kd.R_alloc | apply Kd.R_drewN | apply Kd.R_drew)); exact HO_5.out, by repeat (first | (with_reducible first | exact HB.out | apply below_alloc | apply pw_below_drewN | apply below_drew1) | exact HB.out)⟩
        · rw [if_neg c7] at H
          have c7b0 : (x7_1 == a1) = false := beq_eq_false_iff_ne.mpr c7
          have c7b1 : (x7_1 != a1) = true := bne_iff_ne.mpr c7
          by_cases c8 : x5_1.length < 17592186044416
          · rw [if_pos c8] at H
            have LMc8 := Aside0.mk c8
            clear c8
            obtain ⟨y262, hy262⟩ : ∃ y_ : List Int, y_ = (x5_1 ++ [x7_1]) := ⟨_, rfl⟩
            replace H : (kakugyoref04_Between.l0 k1 a1 y262 (wrap64 ((wrap64 (9 * t260)) + t261)) (wrap64 (x7_1 + (wrap64 ((wrap64 (9 * t260)) + t261))))) = some r := by first | (rw [hy262]; with_reducible exact H) | (have H2_ := (Option.bind_some _ _).symm.trans H; rw [hy262]; with_reducible exact H2_) | (have H2_ := (Option.bind_some _ _).symm.trans H; with_reducible exact H2_) | with_reducible exact H | (rw [hy262]; exact H) | exact H
            have Ny262 := Aside0.mk hy262
            clear hy262
            have H' := Aside0.mk H
            clear H
            go_wp2_with (first | ((with_reducible refine gate_builtin (b := .append) (xs := #[.tmp 36, .tmp 38]) rfl ?_); at_builtin; refine Kd.R_append (Kd.int .i64) (w0 := w) w.heap.size rfl (.tmp 36) (.tmp 38) 46 3 (.int .i64 0) 8 rfl Try.underlying46 info3 rfl (by decide) (by omega) u5 x5_1 x7_1 [.int .i64 x7_1] (fun _ => True) (fun _ => False) rfl rfl ?aP (fun _ hk => hk.elim) ?aF ?aO ?aB ?aS ?aL ?_; (case aP => exact rfl); (case aB => exact (by repeat (first | (with_reducible first | exact HB.out | apply below_alloc | apply pw_below_drewN | apply below_drew1) | exact HB.out))); (case aF => exact (fun _ _ => trivial)); (case aO => exact (by (with_reducible repeat (first | apply Kd.R_alloc | apply Kd.R_drewN | apply Kd.R_drew)); exact HO_5.out)); (case aS => exact (below_size (by repeat (first | (with_reducible first | exact HB.out | apply below_alloc | apply pw_below_drewN | apply below_drew1) | exact HB.out)))); (case aL => have := LMc8.out; omega); intro v263 w9 ho hb hg hat; rw [← Ny262.out] at ho; have n0_ := Aside0.mk (hb); have n1_ := Aside0.mk (ho); clear HB; clear HO_5; have HB := n0_; have HO264 := n1_; clear n0_ n1_; clear ho hb hg hat))
            go_roundg k1
            case measure => have := HK1.out; omega
            case rel => exact ⟨(y262), (wrap64 (x7_1 + (wrap64 ((wrap64 (9 * t260)) + t261)))), (by first | rfl | (simp; done) | (simp [*]; done)), H', ⟨by have := HK1.out; omega⟩, ⟨by (with_reducible repeat (first | apply Kd.R_alloc | apply Kd.R_drewN | apply Kd.R_drew)); exact HO264.out⟩, ⟨by repeat (first | (with_reducible first | exact HB.out | apply below_alloc | apply pw_below_drewN | apply below_drew1) | exact HB.out)⟩⟩
          · rw [if_neg c8] at H
            exact absurd H (by simp)

end Go.Proofs.Ytmoeodcmfjnihaa.Pb
