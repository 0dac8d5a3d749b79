-- Printed by a program of this session: the kit's printer, with contracts of this session's own among its functions.
import Derived.Test.YtmoeodcmfjnihabPax0
namespace Go.Proofs.Ytmoeodcmfjnihab.Pa
open Go.RowKit Go.Proofs.YtmoeodcmfjnihabW.PrintWords Go.Proofs.YtmoeodcmfjnihabW.PrintLast Go.Proofs.YtmoeodcmfjnihabW.PrintMore
attribute [local go_sem] max2_int min2_int max_two min_two max_three min_three max_four min_four   -- for this text's walks alone
set_option linter.unusedVariables false
set_option linter.unusedSimpArgs false

/-! ### set_File: function 34 -/
def set_File.f (a0 : Int) : Option (Int) := some (wrap64 (Int.tdiv a0 9))
set_option maxHeartbeats 8000000 in
set_option maxRecDepth 100000 in
theorem set_File.calls (a0 : Int) (r : Int) (w : World) (h : set_File.f a0 = some r) :
    Calls Try.prog 34 #[.int .i64 a0] w fun e w' => e = .returned (.int .i64 r) ∧ Drawn0 w w' := by
  have H : (some (wrap64 (Int.tdiv a0 9))) = some r := h
  clear h
  obtain rfl := Option.some.inj H
  go_enter Try.func34, Try.ntmps34
  go_wp2
  go_ret
  exact ⟨by first | rfl | (simp; done) | (simp [*]; done), by repeat (first | exact Drawn0.refl _ | apply Drawn0.step)⟩

/-! ### set_Rank: function 35 -/
def set_Rank.f (a0 : Int) : Option (Int) := some (Int.tmod a0 9)
set_option maxHeartbeats 8000000 in
set_option maxRecDepth 100000 in
theorem set_Rank.calls (a0 : Int) (r : Int) (w : World) (h : set_Rank.f a0 = some r) :
    Calls Try.prog 35 #[.int .i64 a0] w fun e w' => e = .returned (.int .i64 r) ∧ Drawn0 w w' := by
  have H : (some (Int.tmod a0 9)) = some r := h
  clear h
  obtain rfl := Option.some.inj H
  go_enter Try.func35, Try.ntmps35
  go_wp2
  go_ret
  exact ⟨by first | rfl | (simp; done) | (simp [*]; done), by repeat (first | exact Drawn0.refl _ | apply Drawn0.step)⟩

/-! ### value_Square: function 15 -/
def value_Square.far (n : Int) : Int := max (wrap64 (n - 4)) (wrap64 (4 - n))
def value_Square.f (a0 : Int) : Option Int := if a0 < 0 then some 0 else if a0 ≥ 81 then some 0 else
  (set_File.f a0).bind fun x => (set_Rank.f a0).bind fun y => some (wrap64 (4 - max (value_Square.far x) (value_Square.far y)))
theorem value_Square.far_calls (n : Int) (w : World) :
    Calls Try.prog 33 #[.int .i64 n] w fun e w' => e = .returned (.int .i64 (value_Square.far n)) ∧ Drawn0 w w' := by
  go_enter Try.func33, Try.ntmps33
  go_wp2
  all_goals go_ret
  all_goals refine ⟨?_, by repeat (first | exact Drawn0.refl _ | apply Drawn0.step)⟩
  all_goals (show Ending.returned (Value.int .i64 _) = Ending.returned (Value.int .i64 _))
  all_goals (congr 2; unfold value_Square.far; rw [Int.max_def]; split <;> omega)
theorem value_Square.calls (a0 : Int) (r : Int) (w : World) (h : value_Square.f a0 = some r) :
    Calls Try.prog 15 #[.int .i64 a0] w fun e w' => e = .returned (.int .i64 r) ∧ Drawn0 w w' := by
  unfold value_Square.f at h
  by_cases h0 : a0 < 0
  · rw [if_pos h0] at h
    obtain rfl := Option.some.inj h; clear h
    have b0 : decide (a0 < 0) = true := decide_eq_true h0
    clear h0
    go_enter Try.func15, Try.ntmps15
    go_wp2
    go_ret
    exact ⟨rfl, by repeat (first | exact Drawn0.refl _ | apply Drawn0.step)⟩
  · rw [if_neg h0] at h
    have b0 : decide (a0 < 0) = false := decide_eq_false h0
    by_cases h1 : a0 ≥ 81
    · rw [if_pos h1] at h
      obtain rfl := Option.some.inj h; clear h
      have b1 : decide (81 ≤ a0) = true := decide_eq_true h1
      clear h0 h1
      go_enter Try.func15, Try.ntmps15
      go_wp2
      go_ret
      exact ⟨rfl, by repeat (first | exact Drawn0.refl _ | apply Drawn0.step)⟩
    · rw [if_neg h1] at h
      have b1 : decide (81 ≤ a0) = false := decide_eq_false h1
      obtain ⟨x, hx, h2⟩ := Option.bind_eq_some_iff.mp h
      obtain ⟨y, hy, h3⟩ := Option.bind_eq_some_iff.mp h2
      obtain rfl := Option.some.inj h3
      have HX := Aside0.mk hx
      have HY := Aside0.mk hy
      clear h h2 h3 hx hy h0 h1
      go_enter Try.func15, Try.ntmps15
      go_wp2_with (first | (go_at_call 34; refine (set_File.calls _ _ _ HX.out).mono ?_; rintro e w' ⟨rfl, ⟨n1, rfl⟩⟩) | (go_at_call 35; refine (set_Rank.calls _ _ _ HY.out).mono ?_; rintro e w' ⟨rfl, ⟨n2, rfl⟩⟩) | (go_at_call 33; refine (value_Square.far_calls _ _).mono ?_; rintro e w' ⟨rfl, ⟨n3, rfl⟩⟩))
      all_goals go_ret
      all_goals refine ⟨?_, by repeat (first | exact Drawn0.refl _ | apply Drawn0.step)⟩
      all_goals (show Ending.returned (Value.int .i64 _) = Ending.returned (Value.int .i64 _))
      all_goals (congr 2; rw [Int.max_def]; split <;> first | rfl | (congr 1; omega) | omega)

/-! ### value_Piece: function 13 -/
def value_Piece.j0 : Nat → Int → Bool → Option (Int)
  | 0, _, _ => none
  | k + 1, x3, x12 => if x12 = true then (some 550) else (if x3 = 9 then (some 600) else (if x3 = 6 then (some 850) else (if x3 = 7 then (some 950) else (if x3 = 14 then (some 1100) else (if x3 = 15 then (some 1250) else (some 0))))))
def value_Piece.f (k : Nat) (a0 : Int) : Option (Int) := if a0 = 1 then (some 100) else (if a0 = 2 then (some 300) else (if a0 = 3 then (some 350) else (if a0 = 4 then (some 500) else (if a0 = 5 then (value_Piece.j0 k a0 (a0 == 5)) else (if a0 = 12 then (value_Piece.j0 k a0 (a0 == 12)) else (if a0 = 11 then (value_Piece.j0 k a0 (a0 == 11)) else (value_Piece.j0 k a0 (a0 == 10))))))))
theorem value_Piece.mono_l : ∀ k, (∀ y0 y1, LeO (value_Piece.j0 k y0 y1) (value_Piece.j0 (k + 1) y0 y1))
  | 0 => fun _ _ r h => by simp [value_Piece.j0] at h
  | k + 1 => by
    have ih0 := value_Piece.mono_l k
    · intro y0 y1
      unfold value_Piece.j0
      repeat' first
      | (with_reducible exact ih0 _ _)
      | (with_reducible exact LeO.refl _)
      | (with_reducible exact LeO.none _)
      | (with_reducible refine LeO.ite ?_ ?_)
      | (with_reducible refine LeO.bind ?_ (fun _ => ?_))
      | exact ih0 _ _
      | exact LeO.none _
      | refine LeO.ite ?_ ?_
      | refine LeO.bind ?_ (fun _ => ?_)
theorem value_Piece.mono : ∀ a0 k, LeO (value_Piece.f k a0) (value_Piece.f (k + 1) a0) := by
  intro a0 k
  have ih0 := value_Piece.mono_l k
  unfold value_Piece.f
  repeat' first
      | (with_reducible exact ih0 _ _)
      | (with_reducible exact LeO.refl _)
      | (with_reducible exact LeO.none _)
      | (with_reducible refine LeO.ite ?_ ?_)
      | (with_reducible refine LeO.bind ?_ (fun _ => ?_))
      | exact ih0 _ _
      | exact LeO.none _
      | refine LeO.ite ?_ ?_
      | refine LeO.bind ?_ (fun _ => ?_)
set_option maxHeartbeats 8000000 in
set_option maxRecDepth 100000 in
theorem value_Piece.calls (k : Nat) (a0 : Int) (r : Int) (w : World) (h : value_Piece.f k a0 = some r) :
    Calls Try.prog 13 #[.int .i64 a0] w fun e w' => e = .returned (.int .i64 r) ∧ Drawn0 w w' := by
  have H : (if a0 = 1 then (some 100) else (if a0 = 2 then (some 300) else (if a0 = 3 then (some 350) else (if a0 = 4 then (some 500) else (if a0 = 5 then (value_Piece.j0 k a0 (a0 == 5)) else (if a0 = 12 then (value_Piece.j0 k a0 (a0 == 12)) else (if a0 = 11 then (value_Piece.j0 k a0 (a0 == 11)) else (value_Piece.j0 k a0 (a0 == 10))))))))) = some r := h
  clear h
  by_cases c2 : a0 = 1
  · rw [if_pos c2] at H
    have c2b0 : (a0 == 1) = true := beq_iff_eq.mpr c2
    have c2b1 : (a0 != 1) = false := bne_eq_false_iff_eq.mpr c2
    clear c2
    obtain rfl := Option.some.inj H
    go_enter Try.func13, Try.ntmps13
    go_wp2
    go_ret
    exact ⟨by first | rfl | (simp; done) | (simp [*]; done), by repeat (first | exact Drawn0.refl _ | apply Drawn0.step)⟩
  · rw [if_neg c2] at H
    have c2b0 : (a0 == 1) = false := beq_eq_false_iff_ne.mpr c2
    have c2b1 : (a0 != 1) = true := bne_iff_ne.mpr c2
    by_cases c3 : a0 = 2
    · rw [if_pos c3] at H
      have c3b0 : (a0 == 2) = true := beq_iff_eq.mpr c3
      have c3b1 : (a0 != 2) = false := bne_eq_false_iff_eq.mpr c3
      clear c3
      obtain rfl := Option.some.inj H
      go_enter Try.func13, Try.ntmps13
      go_wp2
      go_ret
      exact ⟨by first | rfl | (simp; done) | (simp [*]; done), by repeat (first | exact Drawn0.refl _ | apply Drawn0.step)⟩
    · rw [if_neg c3] at H
      have c3b0 : (a0 == 2) = false := beq_eq_false_iff_ne.mpr c3
      have c3b1 : (a0 != 2) = true := bne_iff_ne.mpr c3
      by_cases c4 : a0 = 3
      · rw [if_pos c4] at H
        have c4b0 : (a0 == 3) = true := beq_iff_eq.mpr c4
        have c4b1 : (a0 != 3) = false := bne_eq_false_iff_eq.mpr c4
        clear c4
        obtain rfl := Option.some.inj H
        go_enter Try.func13, Try.ntmps13
        go_wp2
        go_ret
        exact ⟨by first | rfl | (simp; done) | (simp [*]; done), by repeat (first | exact Drawn0.refl _ | apply Drawn0.step)⟩
      · rw [if_neg c4] at H
        have c4b0 : (a0 == 3) = false := beq_eq_false_iff_ne.mpr c4
        have c4b1 : (a0 != 3) = true := bne_iff_ne.mpr c4
        by_cases c5 : a0 = 4
        · rw [if_pos c5] at H
          have c5b0 : (a0 == 4) = true := beq_iff_eq.mpr c5
          have c5b1 : (a0 != 4) = false := bne_eq_false_iff_eq.mpr c5
          clear c5
          obtain rfl := Option.some.inj H
          go_enter Try.func13, Try.ntmps13
          go_wp2
          go_ret
          exact ⟨by first | rfl | (simp; done) | (simp [*]; done), by repeat (first | exact Drawn0.refl _ | apply Drawn0.step)⟩
        · rw [if_neg c5] at H
          have c5b0 : (a0 == 4) = false := beq_eq_false_iff_ne.mpr c5
          have c5b1 : (a0 != 4) = true := bne_iff_ne.mpr c5
          have HC6 := Aside0.mk H
          clear H
          go_enter Try.func13, Try.ntmps13
          go_upto_if 12 with (fail)
          go_cut [12] (fun v12 wc => ∃ (kq : Nat) (x12_5 : Bool), v12 = .bool x12_5 ∧ Aside0 (value_Piece.j0 kq a0 x12_5 = some r) ∧ Aside0 (kq ≤ k) ∧ Drawn0 w wc)
          case first =>
            have H := HC6.out
            clear HC6
            by_cases c7 : a0 = 5
            · rw [if_pos c7] at H
              have c7b0 : (a0 == 5) = true := beq_iff_eq.mpr c7
              have c7b1 : (a0 != 5) = false := bne_eq_false_iff_eq.mpr c7
              clear c7
              (first | rw [c7b0] | (simp only [i64_w, i32_w]; rw [c7b0]) | skip)
              have H' := Aside0.mk H
              clear H
              go_wp2
              go_meet
              case rel => exact ⟨_, ((a0 == 5)), (by first | rfl | (simp; done) | (simp [*]; done)), H', ⟨by first | omega | exact Nat.le_refl _⟩, by repeat (first | exact Drawn0.refl _ | apply Drawn0.step)⟩
            · rw [if_neg c7] at H
              have c7b0 : (a0 == 5) = false := beq_eq_false_iff_ne.mpr c7
              have c7b1 : (a0 != 5) = true := bne_iff_ne.mpr c7
              (first | rw [c7b0] | (simp only [i64_w, i32_w]; rw [c7b0]) | skip)
              by_cases c8 : a0 = 12
              · rw [if_pos c8] at H
                have c8b0 : (a0 == 12) = true := beq_iff_eq.mpr c8
                have c8b1 : (a0 != 12) = false := bne_eq_false_iff_eq.mpr c8
                clear c8
                have H' := Aside0.mk H
                clear H
                go_wp2
                go_meet
                case rel => exact ⟨_, ((a0 == 12)), (by first | rfl | (simp; done) | (simp [*]; done)), H', ⟨by first | omega | exact Nat.le_refl _⟩, by repeat (first | exact Drawn0.refl _ | apply Drawn0.step)⟩
              · rw [if_neg c8] at H
                have c8b0 : (a0 == 12) = false := beq_eq_false_iff_ne.mpr c8
                have c8b1 : (a0 != 12) = true := bne_iff_ne.mpr c8
                by_cases c9 : a0 = 11
                · rw [if_pos c9] at H
                  have c9b0 : (a0 == 11) = true := beq_iff_eq.mpr c9
                  have c9b1 : (a0 != 11) = false := bne_eq_false_iff_eq.mpr c9
                  clear c9
                  have H' := Aside0.mk H
                  clear H
                  go_wp2
                  go_meet
                  case rel => exact ⟨_, ((a0 == 11)), (by first | rfl | (simp; done) | (simp [*]; done)), H', ⟨by first | omega | exact Nat.le_refl _⟩, by repeat (first | exact Drawn0.refl _ | apply Drawn0.step)⟩
                · rw [if_neg c9] at H
                  have c9b0 : (a0 == 11) = false := beq_eq_false_iff_ne.mpr c9
                  have c9b1 : (a0 != 11) = true := bne_iff_ne.mpr c9
                  have H' := Aside0.mk H
                  clear H
                  go_wp2
                  go_meet
                  case rel => exact ⟨_, ((a0 == 10)), (by first | rfl | (simp; done) | (simp [*]; done)), H', ⟨by first | omega | exact Nat.le_refl _⟩, by repeat (first | exact Drawn0.refl _ | apply Drawn0.step)⟩
          case rest =>
            clear HC6
            try clear c1
            try clear c2
            try clear c2b0
            try clear c2b1
            try clear p2
            try clear c3
            try clear c3b0
            try clear c3b1
            try clear c4
            try clear c4b0
            try clear c4b1
            try clear c5
            try clear c5b0
            try clear c5b1
            try clear c7
            try clear c7b0
            try clear c7b1
            try clear c8
            try clear c8b0
            try clear c8b1
            try clear c9
            try clear c9b0
            try clear c9b1
            obtain ⟨kq, x12_5, rfl, HA, HJ5, ⟨mc5, rfl⟩⟩ := hcut
            cases kq with
            | zero => exact absurd HA.out (by simp [value_Piece.j0])
            | succ kj5 =>
              have H := HA.out
              clear HA
              simp only [value_Piece.j0] at H
              by_cases c10 : x12_5 = true
              · subst c10
                have H1 : (some 550) = some r := by rw [if_pos rfl] at H; exact H
                clear H
                have H := H1
                clear H1
                obtain rfl := Option.some.inj H
                go_wp2
                go_ret
                exact ⟨by first | rfl | (simp; done) | (simp [*]; done), by repeat (first | exact Drawn0.refl _ | apply Drawn0.step)⟩
              · replace c10 := Bool.eq_false_iff.mpr c10
                subst c10
                have H1 : (if a0 = 9 then (some 600) else (if a0 = 6 then (some 850) else (if a0 = 7 then (some 950) else (if a0 = 14 then (some 1100) else (if a0 = 15 then (some 1250) else (some 0)))))) = some r := by rw [if_neg (show ¬ (false = true) by decide)] at H; exact H
                clear H
                have H := H1
                clear H1
                by_cases c11 : a0 = 9
                · rw [if_pos c11] at H
                  have c11b0 : (a0 == 9) = true := beq_iff_eq.mpr c11
                  have c11b1 : (a0 != 9) = false := bne_eq_false_iff_eq.mpr c11
                  clear c11
                  obtain rfl := Option.some.inj H
                  go_wp2
                  go_ret
                  exact ⟨by first | rfl | (simp; done) | (simp [*]; done), by repeat (first | exact Drawn0.refl _ | apply Drawn0.step)⟩
                · rw [if_neg c11] at H
                  have c11b0 : (a0 == 9) = false := beq_eq_false_iff_ne.mpr c11
                  have c11b1 : (a0 != 9) = true := bne_iff_ne.mpr c11
                  by_cases c12 : a0 = 6
                  · rw [if_pos c12] at H
                    have c12b0 : (a0 == 6) = true := beq_iff_eq.mpr c12
                    have c12b1 : (a0 != 6) = false := bne_eq_false_iff_eq.mpr c12
                    clear c12
                    obtain rfl := Option.some.inj H
                    go_wp2
                    go_ret
                    exact ⟨by first | rfl | (simp; done) | (simp [*]; done), by repeat (first | exact Drawn0.refl _ | apply Drawn0.step)⟩
                  · rw [if_neg c12] at H
                    have c12b0 : (a0 == 6) = false := beq_eq_false_iff_ne.mpr c12
                    have c12b1 : (a0 != 6) = true := bne_iff_ne.mpr c12
                    by_cases c13 : a0 = 7
                    · rw [if_pos c13] at H
                      have c13b0 : (a0 == 7) = true := beq_iff_eq.mpr c13
                      have c13b1 : (a0 != 7) = false := bne_eq_false_iff_eq.mpr c13
                      clear c13
                      obtain rfl := Option.some.inj H
                      go_wp2
                      go_ret
                      exact ⟨by first | rfl | (simp; done) | (simp [*]; done), by repeat (first | exact Drawn0.refl _ | apply Drawn0.step)⟩
                    · rw [if_neg c13] at H
                      have c13b0 : (a0 == 7) = false := beq_eq_false_iff_ne.mpr c13
                      have c13b1 : (a0 != 7) = true := bne_iff_ne.mpr c13
                      by_cases c14 : a0 = 14
                      · rw [if_pos c14] at H
                        have c14b0 : (a0 == 14) = true := beq_iff_eq.mpr c14
                        have c14b1 : (a0 != 14) = false := bne_eq_false_iff_eq.mpr c14
                        clear c14
                        obtain rfl := Option.some.inj H
                        go_wp2
                        go_ret
                        exact ⟨by first | rfl | (simp; done) | (simp [*]; done), by repeat (first | exact Drawn0.refl _ | apply Drawn0.step)⟩
                      · rw [if_neg c14] at H
                        have c14b0 : (a0 == 14) = false := beq_eq_false_iff_ne.mpr c14
                        have c14b1 : (a0 != 14) = true := bne_iff_ne.mpr c14
                        by_cases c15 : a0 = 15
                        · rw [if_pos c15] at H
                          have c15b0 : (a0 == 15) = true := beq_iff_eq.mpr c15
                          have c15b1 : (a0 != 15) = false := bne_eq_false_iff_eq.mpr c15
                          clear c15
                          obtain rfl := Option.some.inj H
                          go_wp2
                          go_ret
                          exact ⟨by first | rfl | (simp; done) | (simp [*]; done), by repeat (first | exact Drawn0.refl _ | apply Drawn0.step)⟩
                        · rw [if_neg c15] at H
                          have c15b0 : (a0 == 15) = false := beq_eq_false_iff_ne.mpr c15
                          have c15b1 : (a0 != 15) = true := bne_iff_ne.mpr c15
                          obtain rfl := Option.some.inj H
                          go_wp2
                          go_ret
                          exact ⟨by first | rfl | (simp; done) | (simp [*]; done), by repeat (first | exact Drawn0.refl _ | apply Drawn0.step)⟩

/-! ### value_Hand: function 14 -/
def value_Hand.j0 : Nat → Int → Bool → Option (Int)
  | 0, _, _ => none
  | k + 1, x0, x8 => if x8 = true then (some 0) else ((value_Piece.f k x0).bind fun t101 => ((value_Piece.f k x0).bind fun t102 => (some (wrap64 (t101 + (wrap64 (Int.tdiv t102 10)))))))
def value_Hand.f (k : Nat) (a0 : Int) : Option (Int) := if a0 < 1 then (value_Hand.j0 k a0 true) else (value_Hand.j0 k a0 (decide (a0 ≥ 8)))
theorem value_Hand.mono_l : ∀ k, (∀ y0 y1, LeO (value_Hand.j0 k y0 y1) (value_Hand.j0 (k + 1) y0 y1))
  | 0 => fun _ _ r h => by simp [value_Hand.j0] at h
  | k + 1 => by
    have ih0 := value_Hand.mono_l k
    · intro y0 y1
      unfold value_Hand.j0
      repeat' first
      | (with_reducible exact ih0 _ _)
      | (with_reducible exact value_Piece.mono _ _)
      | (with_reducible exact LeO.refl _)
      | (with_reducible exact LeO.none _)
      | (with_reducible refine LeO.ite ?_ ?_)
      | (with_reducible refine LeO.bind ?_ (fun _ => ?_))
      | exact ih0 _ _
      | exact value_Piece.mono _ _
      | exact LeO.none _
      | refine LeO.ite ?_ ?_
      | refine LeO.bind ?_ (fun _ => ?_)
theorem value_Hand.mono : ∀ a0 k, LeO (value_Hand.f k a0) (value_Hand.f (k + 1) a0) := by
  intro a0 k
  have ih0 := value_Hand.mono_l k
  unfold value_Hand.f
  repeat' first
      | (with_reducible exact ih0 _ _)
      | (with_reducible exact value_Piece.mono _ _)
      | (with_reducible exact LeO.refl _)
      | (with_reducible exact LeO.none _)
      | (with_reducible refine LeO.ite ?_ ?_)
      | (with_reducible refine LeO.bind ?_ (fun _ => ?_))
      | exact ih0 _ _
      | exact value_Piece.mono _ _
      | exact LeO.none _
      | refine LeO.ite ?_ ?_
      | refine LeO.bind ?_ (fun _ => ?_)
set_option maxHeartbeats 8000000 in
set_option maxRecDepth 100000 in
theorem value_Hand.calls (k : Nat) (a0 : Int) (r : Int) (w : World) (h : value_Hand.f k a0 = some r) :
    Calls Try.prog 14 #[.int .i64 a0] w fun e w' => e = .returned (.int .i64 r) ∧ Drawn0 w w' := by
  have H : (if a0 < 1 then (value_Hand.j0 k a0 true) else (value_Hand.j0 k a0 (decide (a0 ≥ 8)))) = some r := h
  clear h
  have HC2 := Aside0.mk H
  clear H
  go_enter Try.func14, Try.ntmps14
  go_upto_region 1 with (fail)
  go_cut [8] (fun v8 wc => ∃ (kq : Nat) (x8_1 : Bool), v8 = .bool x8_1 ∧ Aside0 (value_Hand.j0 kq a0 x8_1 = some r) ∧ Aside0 (kq ≤ k) ∧ Drawn0 w wc)
  case first =>
    have H := HC2.out
    clear HC2
    by_cases c3 : a0 < 1
    · rw [if_pos c3] at H
      have c3b0 : decide (a0 < 1) = true := decide_eq_true c3
      clear c3
      (first | rw [c3b0] | (simp only [i64_w, i32_w]; rw [c3b0]) | skip)
      have H' := Aside0.mk H
      clear H
      go_wp2
      go_meet
      case rel => exact ⟨_, (true), (by first | rfl | (simp; done) | (simp [*]; done)), H', ⟨by first | omega | exact Nat.le_refl _⟩, by repeat (first | exact Drawn0.refl _ | apply Drawn0.step)⟩
    · rw [if_neg c3] at H
      have c3b0 : decide (a0 < 1) = false := decide_eq_false c3
      clear c3
      (first | rw [c3b0] | (simp only [i64_w, i32_w]; rw [c3b0]) | skip)
      have H' := Aside0.mk H
      clear H
      go_wp2
      go_meet
      case rel => exact ⟨_, (decide (a0 ≥ 8)), (by first | rfl | (simp; done) | (simp [*]; done)), H', ⟨by first | omega | exact Nat.le_refl _⟩, by repeat (first | exact Drawn0.refl _ | apply Drawn0.step)⟩
  case rest =>
    clear HC2
    try clear c1
    try clear p2
    try clear c3
    try clear c3b0
    obtain ⟨kq, x8_1, rfl, HA, HJ1, ⟨mc1, rfl⟩⟩ := hcut
    cases kq with
    | zero => exact absurd HA.out (by simp [value_Hand.j0])
    | succ kj1 =>
      have H := HA.out
      clear HA
      simp only [value_Hand.j0] at H
      by_cases c4 : x8_1 = true
      · subst c4
        have H1 : (some 0) = some r := by rw [if_pos rfl] at H; exact H
        clear H
        have H := H1
        clear H1
        obtain rfl := Option.some.inj H
        go_wp2
        go_ret
        exact ⟨by first | rfl | (simp; done) | (simp [*]; done), by repeat (first | exact Drawn0.refl _ | apply Drawn0.step)⟩
      · replace c4 := Bool.eq_false_iff.mpr c4
        subst c4
        have H1 : ((value_Piece.f kj1 a0).bind fun t101 => ((value_Piece.f kj1 a0).bind fun t102 => (some (wrap64 (t101 + (wrap64 (Int.tdiv t102 10))))))) = some r := by rw [if_neg (show ¬ (false = true) by decide)] at H; exact H
        clear H
        have H := H1
        clear H1
        replace H := Option.bind_eq_some_iff.mp H
        obtain ⟨t101, A50, H⟩ := H
        replace H : ((value_Piece.f kj1 a0).bind fun t102 => (some (wrap64 (t101 + (wrap64 (Int.tdiv t102 10)))))) = some r := H
        have A5 := Aside0.mk A50
        clear A50
        replace H := Option.bind_eq_some_iff.mp H
        obtain ⟨t102, A60, H⟩ := H
        replace H : (some (wrap64 (t101 + (wrap64 (Int.tdiv t102 10))))) = some r := H
        have A6 := Aside0.mk A60
        clear A60
        obtain rfl := Option.some.inj H
        go_wp2_with (first | ((with_reducible refine gate_callee (f := 13) rfl ?_); refine goesL_ (some 10) rfl rfl Try.func13 (by kernel_rfl) rfl #[.int .i64 a0] rfl (by (try simp only [List.map_toArray, List.map_cons, List.map_nil]); first | done | rfl | (simp only [List.length_drop, List.length_take]; rfl)) ?_; (with_reducible refine (value_Piece.calls kj1 a0 t101 _ A5.out).mono ?_); rintro e w' ⟨rfl, ⟨nd, rfl⟩⟩; refine ⟨_, rfl, ?_⟩) | ((with_reducible refine gate_callee (f := 13) rfl ?_); refine goesL_ (some 12) rfl rfl Try.func13 (by kernel_rfl) rfl #[.int .i64 a0] rfl (by (try simp only [List.map_toArray, List.map_cons, List.map_nil]); first | done | rfl | (simp only [List.length_drop, List.length_take]; rfl)) ?_; (with_reducible refine (value_Piece.calls kj1 a0 t102 _ A6.out).mono ?_); rintro e w' ⟨rfl, ⟨nd, rfl⟩⟩; refine ⟨_, rfl, ?_⟩))
        go_ret
        exact ⟨by first | rfl | (simp; done) | (simp [*]; done), by repeat (first | exact Drawn0.refl _ | apply Drawn0.step)⟩

/-! ### piece_Kind: function 43 -/
def piece_Kind.j0 : Nat → Int → Int → Bool → Option (Int)
  | 0, _, _, _ => none
  | k + 1, x0, x3, x20 => if x20 = true then (if x0 = 8 then (some 8) else (if x0 = 24 then (some 8) else (some 0))) else (some x3)
def piece_Kind.f (k : Nat) (a0 : Int) : Option (Int) := if a0 ≤ 0 then (piece_Kind.j0 k a0 (Go.bits .and .i64 (wrap64 (a0)) 15) true) else (if a0 > 31 then (piece_Kind.j0 k a0 (Go.bits .and .i64 (wrap64 (a0)) 15) true) else (if (Go.bits .and .i64 (wrap64 (a0)) 15) = 0 then (piece_Kind.j0 k a0 (Go.bits .and .i64 (wrap64 (a0)) 15) true) else (piece_Kind.j0 k a0 (Go.bits .and .i64 (wrap64 (a0)) 15) ((Go.bits .and .i64 (wrap64 (a0)) 15) == 13))))
theorem piece_Kind.mono_l : ∀ k, (∀ y0 y1 y2, LeO (piece_Kind.j0 k y0 y1 y2) (piece_Kind.j0 (k + 1) y0 y1 y2))
  | 0 => fun _ _ _ r h => by simp [piece_Kind.j0] at h
  | k + 1 => by
    have ih0 := piece_Kind.mono_l k
    · intro y0 y1 y2
      unfold piece_Kind.j0
      repeat' first
      | (with_reducible exact ih0 _ _ _)
      | (with_reducible exact LeO.refl _)
      | (with_reducible exact LeO.none _)
      | (with_reducible refine LeO.ite ?_ ?_)
      | (with_reducible refine LeO.bind ?_ (fun _ => ?_))
      | exact ih0 _ _ _
      | exact LeO.none _
      | refine LeO.ite ?_ ?_
      | refine LeO.bind ?_ (fun _ => ?_)
theorem piece_Kind.mono : ∀ a0 k, LeO (piece_Kind.f k a0) (piece_Kind.f (k + 1) a0) := by
  intro a0 k
  have ih0 := piece_Kind.mono_l k
  unfold piece_Kind.f
  repeat' first
      | (with_reducible exact ih0 _ _ _)
      | (with_reducible exact LeO.refl _)
      | (with_reducible exact LeO.none _)
      | (with_reducible refine LeO.ite ?_ ?_)
      | (with_reducible refine LeO.bind ?_ (fun _ => ?_))
      | exact ih0 _ _ _
      | exact LeO.none _
      | refine LeO.ite ?_ ?_
      | refine LeO.bind ?_ (fun _ => ?_)
set_option maxHeartbeats 8000000 in
set_option maxRecDepth 100000 in
theorem piece_Kind.calls (k : Nat) (a0 : Int) (r : Int) (w : World) (h : piece_Kind.f k a0 = some r) :
    Calls Try.prog 43 #[.int .i8 a0] w fun e w' => e = .returned (.int .i64 r) ∧ Drawn0 w w' := by
  have H : (if a0 ≤ 0 then (piece_Kind.j0 k a0 (Go.bits .and .i64 (wrap64 (a0)) 15) true) else (if a0 > 31 then (piece_Kind.j0 k a0 (Go.bits .and .i64 (wrap64 (a0)) 15) true) else (if (Go.bits .and .i64 (wrap64 (a0)) 15) = 0 then (piece_Kind.j0 k a0 (Go.bits .and .i64 (wrap64 (a0)) 15) true) else (piece_Kind.j0 k a0 (Go.bits .and .i64 (wrap64 (a0)) 15) ((Go.bits .and .i64 (wrap64 (a0)) 15) == 13))))) = some r := h
  clear h
  have HC2 := Aside0.mk H
  clear H
  go_enter Try.func43, Try.ntmps43
  go_upto_region 2 with (fail)
  go_cut [20] (fun v20 wc => ∃ (kq : Nat) (x20_1 : Bool), v20 = .bool x20_1 ∧ Aside0 (piece_Kind.j0 kq a0 (Go.bits .and .i64 (wrap64 (a0)) 15) x20_1 = some r) ∧ Aside0 (kq ≤ k) ∧ Drawn0 w wc)
  case first =>
    have H := HC2.out
    clear HC2
    by_cases c3 : a0 ≤ 0
    · rw [if_pos c3] at H
      have c3b0 : decide (a0 ≤ 0) = true := decide_eq_true c3
      clear c3
      (first | rw [c3b0] | (simp only [i64_w, i32_w]; rw [c3b0]) | skip)
      have H' := Aside0.mk H
      clear H
      go_wp2
      go_meet
      case rel => exact ⟨_, (true), (by first | rfl | (simp; done) | (simp [*]; done)), H', ⟨by first | omega | exact Nat.le_refl _⟩, by repeat (first | exact Drawn0.refl _ | apply Drawn0.step)⟩
    · rw [if_neg c3] at H
      have c3b0 : decide (a0 ≤ 0) = false := decide_eq_false c3
      clear c3
      (first | rw [c3b0] | (simp only [i64_w, i32_w]; rw [c3b0]) | skip)
      by_cases c4 : a0 > 31
      · rw [if_pos c4] at H
        have c4b0 : decide (31 < a0) = true := decide_eq_true c4
        clear c4
        have H' := Aside0.mk H
        clear H
        go_wp2
        go_meet
        case rel => exact ⟨_, (true), (by first | rfl | (simp; done) | (simp [*]; done)), H', ⟨by first | omega | exact Nat.le_refl _⟩, by repeat (first | exact Drawn0.refl _ | apply Drawn0.step)⟩
      · rw [if_neg c4] at H
        have c4b0 : decide (31 < a0) = false := decide_eq_false c4
        clear c4
        by_cases c5 : (Go.bits .and .i64 (wrap64 (a0)) 15) = 0
        · rw [if_pos c5] at H
          have c5b0 : ((Go.bits .and .i64 (wrap64 (a0)) 15) == 0) = true := beq_iff_eq.mpr c5
          have c5b1 : ((Go.bits .and .i64 (wrap64 (a0)) 15) != 0) = false := bne_eq_false_iff_eq.mpr c5
          clear c5
          have H' := Aside0.mk H
          clear H
          go_wp2
          go_meet
          case rel => exact ⟨_, (true), (by first | rfl | (simp; done) | (simp [*]; done)), H', ⟨by first | omega | exact Nat.le_refl _⟩, by repeat (first | exact Drawn0.refl _ | apply Drawn0.step)⟩
        · rw [if_neg c5] at H
          have c5b0 : ((Go.bits .and .i64 (wrap64 (a0)) 15) == 0) = false := beq_eq_false_iff_ne.mpr c5
          have c5b1 : ((Go.bits .and .i64 (wrap64 (a0)) 15) != 0) = true := bne_iff_ne.mpr c5
          have H' := Aside0.mk H
          clear H
          go_wp2
          go_meet
          case rel => exact ⟨_, (((Go.bits .and .i64 (wrap64 (a0)) 15) == 13)), (by first | rfl | (simp; done) | (simp [*]; done)), H', ⟨by first | omega | exact Nat.le_refl _⟩, by repeat (first | exact Drawn0.refl _ | apply Drawn0.step)⟩
  case rest =>
    clear HC2
    try clear p2
    try clear c3
    try clear c3b0
    try clear c4
    try clear c4b0
    try clear c5
    try clear c5b0
    try clear c5b1
    obtain ⟨kq, x20_1, rfl, HA, HJ1, ⟨mc1, rfl⟩⟩ := hcut
    cases kq with
    | zero => exact absurd HA.out (by simp [piece_Kind.j0])
    | succ kj1 =>
      have H := HA.out
      clear HA
      simp only [piece_Kind.j0] at H
      by_cases c6 : x20_1 = true
      · subst c6
        have H1 : (if a0 = 8 then (some 8) else (if a0 = 24 then (some 8) else (some 0))) = some r := by rw [if_pos rfl] at H; exact H
        clear H
        have H := H1
        clear H1
        by_cases c7 : a0 = 8
        · rw [if_pos c7] at H
          have c7b0 : (a0 == 8) = true := beq_iff_eq.mpr c7
          have c7b1 : (a0 != 8) = false := bne_eq_false_iff_eq.mpr c7
          clear c7
          obtain rfl := Option.some.inj H
          go_wp2
          go_ret
          exact ⟨by first | rfl | (simp; done) | (simp [*]; done), by repeat (first | exact Drawn0.refl _ | apply Drawn0.step)⟩
        · rw [if_neg c7] at H
          have c7b0 : (a0 == 8) = false := beq_eq_false_iff_ne.mpr c7
          have c7b1 : (a0 != 8) = true := bne_iff_ne.mpr c7
          by_cases c8 : a0 = 24
          · rw [if_pos c8] at H
            have c8b0 : (a0 == 24) = true := beq_iff_eq.mpr c8
            have c8b1 : (a0 != 24) = false := bne_eq_false_iff_eq.mpr c8
            clear c8
            obtain rfl := Option.some.inj H
            go_wp2
            go_ret
            exact ⟨by first | rfl | (simp; done) | (simp [*]; done), by repeat (first | exact Drawn0.refl _ | apply Drawn0.step)⟩
          · rw [if_neg c8] at H
            have c8b0 : (a0 == 24) = false := beq_eq_false_iff_ne.mpr c8
            have c8b1 : (a0 != 24) = true := bne_iff_ne.mpr c8
            obtain rfl := Option.some.inj H
            go_wp2
            go_ret
            exact ⟨by first | rfl | (simp; done) | (simp [*]; done), by repeat (first | exact Drawn0.refl _ | apply Drawn0.step)⟩
      · replace c6 := Bool.eq_false_iff.mpr c6
        subst c6
        have H1 : (some (Go.bits .and .i64 (wrap64 (a0)) 15)) = some r := by rw [if_neg (show ¬ (false = true) by decide)] at H; exact H
        clear H
        have H := H1
        clear H1
        obtain rfl := Option.some.inj H
        go_wp2
        go_ret
        exact ⟨by first | rfl | (simp; done) | (simp [*]; done), by repeat (first | exact Drawn0.refl _ | apply Drawn0.step)⟩

/-! ### piece_Side: function 42 -/
def piece_Side.f (k : Nat) (a0 : Int) : Option (Int) := (piece_Kind.f k a0).bind fun t103 => (if t103 = 0 then (some (-1)) else (if a0 < 16 then (some 0) else (some 1)))
theorem piece_Side.mono : ∀ a0 k, LeO (piece_Side.f k a0) (piece_Side.f (k + 1) a0) := by
  intro a0 k
  unfold piece_Side.f
  repeat' first
      | (with_reducible exact piece_Kind.mono _ _)
      | (with_reducible exact LeO.refl _)
      | (with_reducible exact LeO.none _)
      | (with_reducible refine LeO.ite ?_ ?_)
      | (with_reducible refine LeO.bind ?_ (fun _ => ?_))
      | exact piece_Kind.mono _ _
      | exact LeO.none _
      | refine LeO.ite ?_ ?_
      | refine LeO.bind ?_ (fun _ => ?_)
set_option maxHeartbeats 8000000 in
set_option maxRecDepth 100000 in
theorem piece_Side.calls (k : Nat) (a0 : Int) (r : Int) (w : World) (h : piece_Side.f k a0 = some r) :
    Calls Try.prog 42 #[.int .i8 a0] w fun e w' => e = .returned (.int .i64 r) ∧ Drawn0 w w' := by
  have H : ((piece_Kind.f k a0).bind fun t103 => (if t103 = 0 then (some (-1)) else (if a0 < 16 then (some 0) else (some 1)))) = some r := h
  clear h
  replace H := Option.bind_eq_some_iff.mp H
  obtain ⟨t103, A20, H⟩ := H
  replace H : (if t103 = 0 then (some (-1)) else (if a0 < 16 then (some 0) else (some 1))) = some r := H
  have A2 := Aside0.mk A20
  clear A20
  by_cases c3 : t103 = 0
  · rw [if_pos c3] at H
    have c3b0 : (t103 == 0) = true := beq_iff_eq.mpr c3
    have c3b1 : (t103 != 0) = false := bne_eq_false_iff_eq.mpr c3
    clear c3
    obtain rfl := Option.some.inj H
    go_enter Try.func42, Try.ntmps42
    go_wp2_with (first | ((with_reducible refine gate_callee (f := 43) rfl ?_); refine goesL_ (some 5) rfl rfl Try.func43 (by kernel_rfl) rfl #[.int .i8 a0] rfl (by (try simp only [List.map_toArray, List.map_cons, List.map_nil]); first | done | rfl | (simp only [List.length_drop, List.length_take]; rfl)) ?_; (with_reducible refine (piece_Kind.calls k a0 t103 _ A2.out).mono ?_); rintro e w' ⟨rfl, ⟨nd, rfl⟩⟩; refine ⟨_, rfl, ?_⟩))
    go_ret
    exact ⟨by first | rfl | (simp; done) | (simp [*]; done), by repeat (first | exact Drawn0.refl _ | apply Drawn0.step)⟩
  · rw [if_neg c3] at H
    have c3b0 : (t103 == 0) = false := beq_eq_false_iff_ne.mpr c3
    have c3b1 : (t103 != 0) = true := bne_iff_ne.mpr c3
    by_cases c4 : a0 < 16
    · rw [if_pos c4] at H
      have c4b0 : decide (a0 < 16) = true := decide_eq_true c4
      clear c4
      obtain rfl := Option.some.inj H
      go_enter Try.func42, Try.ntmps42
      go_wp2_with (first | ((with_reducible refine gate_callee (f := 43) rfl ?_); refine goesL_ (some 5) rfl rfl Try.func43 (by kernel_rfl) rfl #[.int .i8 a0] rfl (by (try simp only [List.map_toArray, List.map_cons, List.map_nil]); first | done | rfl | (simp only [List.length_drop, List.length_take]; rfl)) ?_; (with_reducible refine (piece_Kind.calls k a0 t103 _ A2.out).mono ?_); rintro e w' ⟨rfl, ⟨nd, rfl⟩⟩; refine ⟨_, rfl, ?_⟩))
      go_ret
      exact ⟨by first | rfl | (simp; done) | (simp [*]; done), by repeat (first | exact Drawn0.refl _ | apply Drawn0.step)⟩
    · rw [if_neg c4] at H
      have c4b0 : decide (a0 < 16) = false := decide_eq_false c4
      clear c4
      obtain rfl := Option.some.inj H
      go_enter Try.func42, Try.ntmps42
      go_wp2_with (first | ((with_reducible refine gate_callee (f := 43) rfl ?_); refine goesL_ (some 5) rfl rfl Try.func43 (by kernel_rfl) rfl #[.int .i8 a0] rfl (by (try simp only [List.map_toArray, List.map_cons, List.map_nil]); first | done | rfl | (simp only [List.length_drop, List.length_take]; rfl)) ?_; (with_reducible refine (piece_Kind.calls k a0 t103 _ A2.out).mono ?_); rintro e w' ⟨rfl, ⟨nd, rfl⟩⟩; refine ⟨_, rfl, ?_⟩))
      go_ret
      exact ⟨by first | rfl | (simp; done) | (simp [*]; done), by repeat (first | exact Drawn0.refl _ | apply Drawn0.step)⟩

end Go.Proofs.Ytmoeodcmfjnihab.Pa
