-- Printed by a program of this session: the kit's printer, with contracts of this session's own among its functions.
import Derived.Test.YtnmfkhnddnohjaaPax0
import Derived.Test.YtnmfkhnddnohjaaPax1
import Derived.Test.YtnmfkhnddnohjaaPax2
import Derived.Test.YtnmfkhnddnohjaaPax3
namespace Go.Proofs.Ytnmfkhnddnohjaa.Pa
open Go.RowKit Go.Proofs.YtnmfkhnddnohjaaW.PrintWords Go.Proofs.YtnmfkhnddnohjaaW.PrintLast Go.Proofs.YtnmfkhnddnohjaaW.PrintMore
attribute [local go_sem] max2_int min2_int max_two min_two max_three min_three max_four min_four   -- for this text's walks alone
set_option linter.unusedVariables false
set_option linter.unusedSimpArgs false

/-! ### kakugyolaw02_PieceOf: function 5 -/
mutual
def kakugyolaw02_PieceOf.j0 : Nat → Int → Int → Int → Bool → Option (Bool)
  | 0, _, _, _, _ => none
  | k + 1, x0, x1, x5, x21 => if x21 = true then (if x5 = 0 then (kakugyolaw02_PieceOf.j1 k x1) else (some false)) else (if (wrap64 (x5)) = (wrap64 ((wrap64 (16 * x0)) + x1)) then (kakugyolaw02_PieceOf.j1 k x1) else (some false))
def kakugyolaw02_PieceOf.j1 : Nat → Int → Option (Bool)
  | 0, _ => none
  | k + 1, x1 => (piece_Raw.f x1).bind fun t166 => ((kakugyoref02_Raw.f k x1).bind fun t167 => (if t166 = t167 then ((piece_Up.f x1).bind fun t168 => ((kakugyoref02_Up.f x1).bind fun t169 => (if t168 = t169 then ((piece_Total.f k x1).bind fun t170 => ((kakugyoref02_Total.f x1).bind fun t171 => (some (t170 == t171)))) else (some false)))) else (some false)))
end
def kakugyolaw02_PieceOf.f (k : Nat) (a0 : Int) (a1 : Int) : Option (Bool) := (kakugyolaw02_names.f k).bind fun t163 => (if t163 = true then ((piece_Of.f a0 a1).bind fun t164 => (if a0 < 0 then (kakugyolaw02_PieceOf.j0 k a0 a1 t164 true) else (if a0 > 1 then (kakugyolaw02_PieceOf.j0 k a0 a1 t164 true) else ((kakugyoref02_Raw.f k a1).bind fun t165 => (kakugyolaw02_PieceOf.j0 k a0 a1 t164 (t165 == 0)))))) else (some false))
theorem kakugyolaw02_PieceOf.mono_l : ∀ k, (∀ y0 y1 y2 y3, LeO (kakugyolaw02_PieceOf.j0 k y0 y1 y2 y3) (kakugyolaw02_PieceOf.j0 (k + 1) y0 y1 y2 y3)) ∧ (∀ y0, LeO (kakugyolaw02_PieceOf.j1 k y0) (kakugyolaw02_PieceOf.j1 (k + 1) y0))
  | 0 => ⟨fun _ _ _ _ r h => by simp [kakugyolaw02_PieceOf.j0] at h, fun _ r h => by simp [kakugyolaw02_PieceOf.j1] at h⟩
  | k + 1 => by
    obtain ⟨ih0, ih1⟩ := kakugyolaw02_PieceOf.mono_l k
    refine ⟨?_, ?_⟩
    · intro y0 y1 y2 y3
      unfold kakugyolaw02_PieceOf.j0
      repeat' first
      | (with_reducible exact ih0 _ _ _ _)
      | (with_reducible exact ih1 _)
      | (with_reducible exact kakugyolaw02_names.mono _)
      | (with_reducible exact kakugyoref02_Raw.mono _ _)
      | (with_reducible exact piece_Total.mono _ _)
      | (with_reducible exact LeO.refl _)
      | (with_reducible exact LeO.none _)
      | (with_reducible refine LeO.ite ?_ ?_)
      | (with_reducible refine LeO.bind ?_ (fun _ => ?_))
      | exact ih0 _ _ _ _
      | exact ih1 _
      | exact kakugyolaw02_names.mono _
      | exact kakugyoref02_Raw.mono _ _
      | exact piece_Total.mono _ _
      | exact LeO.none _
      | refine LeO.ite ?_ ?_
      | refine LeO.bind ?_ (fun _ => ?_)
    · intro y0
      unfold kakugyolaw02_PieceOf.j1
      repeat' first
      | (with_reducible exact ih0 _ _ _ _)
      | (with_reducible exact ih1 _)
      | (with_reducible exact kakugyolaw02_names.mono _)
      | (with_reducible exact kakugyoref02_Raw.mono _ _)
      | (with_reducible exact piece_Total.mono _ _)
      | (with_reducible exact LeO.refl _)
      | (with_reducible exact LeO.none _)
      | (with_reducible refine LeO.ite ?_ ?_)
      | (with_reducible refine LeO.bind ?_ (fun _ => ?_))
      | exact ih0 _ _ _ _
      | exact ih1 _
      | exact kakugyolaw02_names.mono _
      | exact kakugyoref02_Raw.mono _ _
      | exact piece_Total.mono _ _
      | exact LeO.none _
      | refine LeO.ite ?_ ?_
      | refine LeO.bind ?_ (fun _ => ?_)
theorem kakugyolaw02_PieceOf.mono : ∀ a0 a1 k, LeO (kakugyolaw02_PieceOf.f k a0 a1) (kakugyolaw02_PieceOf.f (k + 1) a0 a1) := by
  intro a0 a1 k
  obtain ⟨ih0, ih1⟩ := kakugyolaw02_PieceOf.mono_l k
  unfold kakugyolaw02_PieceOf.f
  repeat' first
      | (with_reducible exact ih0 _ _ _ _)
      | (with_reducible exact ih1 _)
      | (with_reducible exact kakugyolaw02_names.mono _)
      | (with_reducible exact kakugyoref02_Raw.mono _ _)
      | (with_reducible exact piece_Total.mono _ _)
      | (with_reducible exact LeO.refl _)
      | (with_reducible exact LeO.none _)
      | (with_reducible refine LeO.ite ?_ ?_)
      | (with_reducible refine LeO.bind ?_ (fun _ => ?_))
      | exact ih0 _ _ _ _
      | exact ih1 _
      | exact kakugyolaw02_names.mono _
      | exact kakugyoref02_Raw.mono _ _
      | exact piece_Total.mono _ _
      | exact LeO.none _
      | refine LeO.ite ?_ ?_
      | refine LeO.bind ?_ (fun _ => ?_)
set_option maxHeartbeats 8000000 in
set_option maxRecDepth 100000 in
theorem kakugyolaw02_PieceOf.calls (k : Nat) (a0 : Int) (a1 : Int) (r : Bool) (w : World) (h : kakugyolaw02_PieceOf.f k a0 a1 = some r) :
    Calls Try.prog 5 #[.int .i64 a0, .int .i64 a1] w fun e w' => e = .returned (.bool r) ∧ Below w.heap.size w w' := by
  have HB := Aside0.mk (Below.refl w.heap.size w)
  have H : ((kakugyolaw02_names.f k).bind fun t163 => (if t163 = true then ((piece_Of.f a0 a1).bind fun t164 => (if a0 < 0 then (kakugyolaw02_PieceOf.j0 k a0 a1 t164 true) else (if a0 > 1 then (kakugyolaw02_PieceOf.j0 k a0 a1 t164 true) else ((kakugyoref02_Raw.f k a1).bind fun t165 => (kakugyolaw02_PieceOf.j0 k a0 a1 t164 (t165 == 0)))))) else (some false))) = some r := h
  clear h
  replace H := Option.bind_eq_some_iff.mp H
  obtain ⟨t163, A30, H⟩ := H
  replace H : (if t163 = true then ((piece_Of.f a0 a1).bind fun t164 => (if a0 < 0 then (kakugyolaw02_PieceOf.j0 k a0 a1 t164 true) else (if a0 > 1 then (kakugyolaw02_PieceOf.j0 k a0 a1 t164 true) else ((kakugyoref02_Raw.f k a1).bind fun t165 => (kakugyolaw02_PieceOf.j0 k a0 a1 t164 (t165 == 0)))))) else (some false)) = some r := H
  have A3 := Aside0.mk A30
  clear A30
  by_cases c4 : t163 = true
  · subst c4
    have H1 : ((piece_Of.f a0 a1).bind fun t164 => (if a0 < 0 then (kakugyolaw02_PieceOf.j0 k a0 a1 t164 true) else (if a0 > 1 then (kakugyolaw02_PieceOf.j0 k a0 a1 t164 true) else ((kakugyoref02_Raw.f k a1).bind fun t165 => (kakugyolaw02_PieceOf.j0 k a0 a1 t164 (t165 == 0)))))) = some r := by rw [if_pos rfl] at H; exact H
    clear H
    have H := H1
    clear H1
    replace H := Option.bind_eq_some_iff.mp H
    obtain ⟨t164, A50, H⟩ := H
    replace H : (if a0 < 0 then (kakugyolaw02_PieceOf.j0 k a0 a1 t164 true) else (if a0 > 1 then (kakugyolaw02_PieceOf.j0 k a0 a1 t164 true) else ((kakugyoref02_Raw.f k a1).bind fun t165 => (kakugyolaw02_PieceOf.j0 k a0 a1 t164 (t165 == 0))))) = some r := H
    have A5 := Aside0.mk A50
    clear A50
    have HC6 := Aside0.mk H
    clear H
    go_enter Try.func5, Try.ntmps5
    go_upto_region 4 with (first | ((with_reducible refine gate_callee (f := 10) rfl ?_); refine goesL_ (some 6) rfl rfl Try.func10 (by kernel_rfl) rfl #[] rfl (by (try simp only [List.map_toArray, List.map_cons, List.map_nil]); first | done | rfl | (simp only [List.length_drop, List.length_take]; rfl)) ?_; (with_reducible refine (kakugyolaw02_names.calls k  true _ A3.out).mono ?_); rintro e w7 ⟨rfl, hb⟩; refine ⟨_, rfl, ?_⟩; have n0_ := Aside0.mk (below_step (by repeat (first | (with_reducible first | exact HB.out | apply below_alloc | apply pw_below_drewN | apply below_drew1) | exact HB.out)) hb); clear HB; have HB := n0_; clear n0_; (try clear hb); (try clear hb2); (try clear hk); (try clear hi)) | ((with_reducible refine gate_callee (f := 17) rfl ?_); refine goesL_ (some 10) rfl rfl Try.func17 (by kernel_rfl) rfl #[.int .i64 a0, .int .i64 a1] rfl (by (try simp only [List.map_toArray, List.map_cons, List.map_nil]); first | done | rfl | (simp only [List.length_drop, List.length_take]; rfl)) ?_; (with_reducible refine (piece_Of.calls a0 a1 t164 _ A5.out).mono ?_); rintro e w' ⟨rfl, ⟨nd, rfl⟩⟩; refine ⟨_, rfl, ?_⟩))
    (try simp only [Act.put, List.setIfInBounds_toArray, List.set_cons_zero, List.set_cons_succ])
    go_cut [21] (fun v21 wc => ∃ (kq : Nat) (x21_5 : Bool), v21 = .bool x21_5 ∧ Aside0 (kakugyolaw02_PieceOf.j0 kq a0 a1 t164 x21_5 = some r) ∧ Aside0 (kq ≤ k) ∧ Aside0 (Below w.heap.size w wc))
    case first =>
      have H := HC6.out
      clear HC6
      by_cases c8 : a0 < 0
      · rw [if_pos c8] at H
        have c8b0 : decide (a0 < 0) = true := decide_eq_true c8
        clear c8
        (first | rw [c8b0] | (simp only [i64_w, i32_w]; rw [c8b0]) | skip)
        have H' := Aside0.mk H
        clear H
        go_wp2
        go_meet
        case rel => exact ⟨_, (true), (by first | rfl | (simp; done) | (simp [*]; done)), H', ⟨by first | omega | exact Nat.le_refl _⟩, ⟨by repeat (first | (with_reducible first | exact HB.out | apply below_alloc | apply pw_below_drewN | apply below_drew1) | exact HB.out)⟩⟩
      · rw [if_neg c8] at H
        have c8b0 : decide (a0 < 0) = false := decide_eq_false c8
        clear c8
        (first | rw [c8b0] | (simp only [i64_w, i32_w]; rw [c8b0]) | skip)
        by_cases c9 : a0 > 1
        · rw [if_pos c9] at H
          have c9b0 : decide (1 < a0) = true := decide_eq_true c9
          clear c9
          have H' := Aside0.mk H
          clear H
          go_wp2
          go_meet
          case rel => exact ⟨_, (true), (by first | rfl | (simp; done) | (simp [*]; done)), H', ⟨by first | omega | exact Nat.le_refl _⟩, ⟨by repeat (first | (with_reducible first | exact HB.out | apply below_alloc | apply pw_below_drewN | apply below_drew1) | exact HB.out)⟩⟩
        · rw [if_neg c9] at H
          have c9b0 : decide (1 < a0) = false := decide_eq_false c9
          clear c9
          replace H := Option.bind_eq_some_iff.mp H
          obtain ⟨t165, A100, H⟩ := H
          replace H : (kakugyolaw02_PieceOf.j0 k a0 a1 t164 (t165 == 0)) = some r := H
          have A10 := Aside0.mk A100
          clear A100
          have H' := Aside0.mk H
          clear H
          go_wp2_with (first | (go_at_call 19; (with_reducible refine (kakugyoref02_Raw.calls k a1 t165 _ A10.out).mono ?_); rintro e w' ⟨rfl, ⟨nd, rfl⟩⟩))
          go_meet
          case rel => exact ⟨_, ((t165 == 0)), (by first | rfl | (simp; done) | (simp [*]; done)), H', ⟨by first | omega | exact Nat.le_refl _⟩, ⟨by repeat (first | (with_reducible first | exact HB.out | apply below_alloc | apply pw_below_drewN | apply below_drew1) | exact HB.out)⟩⟩
    case rest =>
      clear HC6
      try clear c1
      try clear p2
      try clear c4
      try clear c5
      try clear c8
      try clear c8b0
      try clear c9
      try clear c9b0
      try clear c10
      obtain ⟨kq, x21_5, rfl, HA, HJ5, HB⟩ := hcut
      cases kq with
      | zero => exact absurd HA.out (by simp [kakugyolaw02_PieceOf.j0])
      | succ kj5 =>
        have H := HA.out
        clear HA
        simp only [kakugyolaw02_PieceOf.j0] at H
        have HC11 := Aside0.mk H
        clear H
        go_upto_if 21 with (fail)
        go_cut [] (fun wc => ∃ (kq : Nat), Aside0 (kakugyolaw02_PieceOf.j1 kq a1 = some r) ∧ Aside0 (kq ≤ kj5) ∧ Aside0 (Below w.heap.size w wc))
        case first =>
          have H := HC11.out
          clear HC11
          by_cases c12 : x21_5 = true
          · subst c12
            have H1 : (if t164 = 0 then (kakugyolaw02_PieceOf.j1 kj5 a1) else (some false)) = some r := by rw [if_pos rfl] at H; exact H
            clear H
            have H := H1
            clear H1
            by_cases c13 : t164 = 0
            · rw [if_pos c13] at H
              have c13b0 : (t164 == 0) = true := beq_iff_eq.mpr c13
              have c13b1 : (t164 != 0) = false := bne_eq_false_iff_eq.mpr c13
              clear c13
              (first | rw [c13b0] | (simp only [i64_w, i32_w]; rw [c13b0]) | skip)
              have H' := Aside0.mk H
              clear H
              go_wp2
              go_meet
              case rel => exact ⟨_, H', ⟨by have := HJ5.out; first | omega | exact Nat.le_refl _⟩, ⟨by repeat (first | (with_reducible first | exact HB.out | apply below_alloc | apply pw_below_drewN | apply below_drew1) | exact HB.out)⟩⟩
            · rw [if_neg c13] at H
              have c13b0 : (t164 == 0) = false := beq_eq_false_iff_ne.mpr c13
              have c13b1 : (t164 != 0) = true := bne_iff_ne.mpr c13
              (first | rw [c13b0] | (simp only [i64_w, i32_w]; rw [c13b0]) | skip)
              obtain rfl := Option.some.inj H
              go_wp2
              go_ret
              exact ⟨by first | rfl | (simp [errW_none, errW_some] <;> rfl) | (simp [*, errW_none, errW_some] <;> rfl) | (simp [*, errW_none, errW_some]; generalize ByteArray.toList _ = q_; cases q_ <;> rfl), by repeat (first | (with_reducible first | exact HB.out | apply below_alloc | apply pw_below_drewN | apply below_drew1) | exact HB.out)⟩
          · replace c12 := Bool.eq_false_iff.mpr c12
            subst c12
            have H1 : (if (wrap64 (t164)) = (wrap64 ((wrap64 (16 * a0)) + a1)) then (kakugyolaw02_PieceOf.j1 kj5 a1) else (some false)) = some r := by rw [if_neg (show ¬ (false = true) by decide)] at H; exact H
            clear H
            have H := H1
            clear H1
            by_cases c14 : (wrap64 (t164)) = (wrap64 ((wrap64 (16 * a0)) + a1))
            · rw [if_pos c14] at H
              have c14b0 : ((wrap64 (t164)) == (wrap64 ((wrap64 (16 * a0)) + a1))) = true := beq_iff_eq.mpr c14
              have c14b1 : ((wrap64 (t164)) != (wrap64 ((wrap64 (16 * a0)) + a1))) = false := bne_eq_false_iff_eq.mpr c14
              clear c14
              have H' := Aside0.mk H
              clear H
              go_wp2
              go_meet
              case rel => exact ⟨_, H', ⟨by have := HJ5.out; first | omega | exact Nat.le_refl _⟩, ⟨by repeat (first | (with_reducible first | exact HB.out | apply below_alloc | apply pw_below_drewN | apply below_drew1) | exact HB.out)⟩⟩
            · rw [if_neg c14] at H
              have c14b0 : ((wrap64 (t164)) == (wrap64 ((wrap64 (16 * a0)) + a1))) = false := beq_eq_false_iff_ne.mpr c14
              have c14b1 : ((wrap64 (t164)) != (wrap64 ((wrap64 (16 * a0)) + a1))) = true := bne_iff_ne.mpr c14
              obtain rfl := Option.some.inj H
              go_wp2
              go_ret
              exact ⟨by first | rfl | (simp [errW_none, errW_some] <;> rfl) | (simp [*, errW_none, errW_some] <;> rfl) | (simp [*, errW_none, errW_some]; generalize ByteArray.toList _ = q_; cases q_ <;> rfl), by repeat (first | (with_reducible first | exact HB.out | apply below_alloc | apply pw_below_drewN | apply below_drew1) | exact HB.out)⟩
        case rest =>
          clear HC11
          try clear c1
          try clear p2
          try clear c4
          try clear c5
          try clear p6
          try clear c8
          try clear c8b0
          try clear c9
          try clear c9b0
          try clear c10
          try clear c12
          try clear c13
          try clear c13b0
          try clear c13b1
          try clear c14
          try clear c14b0
          try clear c14b1
          try clear p2
          obtain ⟨kq, HA, HJ10, HB⟩ := hcut
          cases kq with
          | zero => exact absurd HA.out (by simp [kakugyolaw02_PieceOf.j1])
          | succ kj10 =>
            have H := HA.out
            clear HA
            simp only [kakugyolaw02_PieceOf.j1] at H
            replace H := Option.bind_eq_some_iff.mp H
            obtain ⟨t166, A150, H⟩ := H
            replace H : ((kakugyoref02_Raw.f kj10 a1).bind fun t167 => (if t166 = t167 then ((piece_Up.f a1).bind fun t168 => ((kakugyoref02_Up.f a1).bind fun t169 => (if t168 = t169 then ((piece_Total.f kj10 a1).bind fun t170 => ((kakugyoref02_Total.f a1).bind fun t171 => (some (t170 == t171)))) else (some false)))) else (some false))) = some r := H
            have A15 := Aside0.mk A150
            clear A150
            replace H := Option.bind_eq_some_iff.mp H
            obtain ⟨t167, A160, H⟩ := H
            replace H : (if t166 = t167 then ((piece_Up.f a1).bind fun t168 => ((kakugyoref02_Up.f a1).bind fun t169 => (if t168 = t169 then ((piece_Total.f kj10 a1).bind fun t170 => ((kakugyoref02_Total.f a1).bind fun t171 => (some (t170 == t171)))) else (some false)))) else (some false)) = some r := H
            have A16 := Aside0.mk A160
            clear A160
            by_cases c17 : t166 = t167
            · rw [if_pos c17] at H
              have c17b0 : (t166 == t167) = true := beq_iff_eq.mpr c17
              have c17b1 : (t166 != t167) = false := bne_eq_false_iff_eq.mpr c17
              clear c17
              replace H := Option.bind_eq_some_iff.mp H
              obtain ⟨t168, A180, H⟩ := H
              replace H : ((kakugyoref02_Up.f a1).bind fun t169 => (if t168 = t169 then ((piece_Total.f kj10 a1).bind fun t170 => ((kakugyoref02_Total.f a1).bind fun t171 => (some (t170 == t171)))) else (some false))) = some r := H
              have A18 := Aside0.mk A180
              clear A180
              replace H := Option.bind_eq_some_iff.mp H
              obtain ⟨t169, A190, H⟩ := H
              replace H : (if t168 = t169 then ((piece_Total.f kj10 a1).bind fun t170 => ((kakugyoref02_Total.f a1).bind fun t171 => (some (t170 == t171)))) else (some false)) = some r := H
              have A19 := Aside0.mk A190
              clear A190
              by_cases c20 : t168 = t169
              · rw [if_pos c20] at H
                have c20b0 : (t168 == t169) = true := beq_iff_eq.mpr c20
                have c20b1 : (t168 != t169) = false := bne_eq_false_iff_eq.mpr c20
                clear c20
                replace H := Option.bind_eq_some_iff.mp H
                obtain ⟨t170, A210, H⟩ := H
                replace H : ((kakugyoref02_Total.f a1).bind fun t171 => (some (t170 == t171))) = some r := H
                have A21 := Aside0.mk A210
                clear A210
                replace H := Option.bind_eq_some_iff.mp H
                obtain ⟨t171, A220, H⟩ := H
                replace H : (some (t170 == t171)) = some r := H
                have A22 := Aside0.mk A220
                clear A220
                obtain rfl := Option.some.inj H
                go_wp2_with (first | ((with_reducible refine gate_callee (f := 18) rfl ?_); refine goesL_ (some 32) rfl rfl Try.func18 (by kernel_rfl) rfl #[.int .i64 a1] rfl (by (try simp only [List.map_toArray, List.map_cons, List.map_nil]); first | done | rfl | (simp only [List.length_drop, List.length_take]; rfl)) ?_; (with_reducible refine (piece_Raw.calls a1 t166 _ A15.out).mono ?_); rintro e w' ⟨rfl, ⟨nd, rfl⟩⟩; refine ⟨_, rfl, ?_⟩) | ((with_reducible refine gate_callee (f := 19) rfl ?_); refine goesL_ (some 34) rfl rfl Try.func19 (by kernel_rfl) rfl #[.int .i64 a1] rfl (by (try simp only [List.map_toArray, List.map_cons, List.map_nil]); first | done | rfl | (simp only [List.length_drop, List.length_take]; rfl)) ?_; (with_reducible refine (kakugyoref02_Raw.calls kj10 a1 t167 _ A16.out).mono ?_); rintro e w' ⟨rfl, ⟨nd, rfl⟩⟩; refine ⟨_, rfl, ?_⟩) | (go_at_call 23; (with_reducible refine (piece_Up.calls a1 t168 _ A18.out).mono ?_); rintro e w' ⟨rfl, ⟨nd, rfl⟩⟩) | (go_at_call 24; (with_reducible refine (kakugyoref02_Up.calls a1 t169 _ A19.out).mono ?_); rintro e w' ⟨rfl, ⟨nd, rfl⟩⟩) | (go_at_call 25; (with_reducible refine (piece_Total.calls kj10 a1 t170 _ A21.out).mono ?_); rintro e w' ⟨rfl, ⟨nd, rfl⟩⟩) | (go_at_call 26; (with_reducible refine (kakugyoref02_Total.calls a1 t171 _ A22.out).mono ?_); rintro e w23 ⟨rfl, hb⟩; have n0_ := Aside0.mk (below_step (by repeat (first | (with_reducible first | exact HB.out | apply below_alloc | apply pw_below_drewN | apply below_drew1) | exact HB.out)) hb); clear HB; have HB := n0_; clear n0_; (try clear hb); (try clear hb2); (try clear hk); (try clear hi)))
                go_ret
                exact ⟨by first | rfl | (simp [errW_none, errW_some] <;> rfl) | (simp [*, errW_none, errW_some] <;> rfl) | (simp [*, errW_none, errW_some]; generalize ByteArray.toList _ = q_; cases q_ <;> rfl), by repeat (first | (with_reducible first | exact HB.out | apply below_alloc | apply pw_below_drewN | apply below_drew1) | exact HB.out)⟩
              · rw [if_neg c20] at H
                have c20b0 : (t168 == t169) = false := beq_eq_false_iff_ne.mpr c20
                have c20b1 : (t168 != t169) = true := bne_iff_ne.mpr c20
                obtain rfl := Option.some.inj H
                go_wp2_with (first | ((with_reducible refine gate_callee (f := 18) rfl ?_); refine goesL_ (some 32) rfl rfl Try.func18 (by kernel_rfl) rfl #[.int .i64 a1] rfl (by (try simp only [List.map_toArray, List.map_cons, List.map_nil]); first | done | rfl | (simp only [List.length_drop, List.length_take]; rfl)) ?_; (with_reducible refine (piece_Raw.calls a1 t166 _ A15.out).mono ?_); rintro e w' ⟨rfl, ⟨nd, rfl⟩⟩; refine ⟨_, rfl, ?_⟩) | ((with_reducible refine gate_callee (f := 19) rfl ?_); refine goesL_ (some 34) rfl rfl Try.func19 (by kernel_rfl) rfl #[.int .i64 a1] rfl (by (try simp only [List.map_toArray, List.map_cons, List.map_nil]); first | done | rfl | (simp only [List.length_drop, List.length_take]; rfl)) ?_; (with_reducible refine (kakugyoref02_Raw.calls kj10 a1 t167 _ A16.out).mono ?_); rintro e w' ⟨rfl, ⟨nd, rfl⟩⟩; refine ⟨_, rfl, ?_⟩) | (go_at_call 23; (with_reducible refine (piece_Up.calls a1 t168 _ A18.out).mono ?_); rintro e w' ⟨rfl, ⟨nd, rfl⟩⟩) | (go_at_call 24; (with_reducible refine (kakugyoref02_Up.calls a1 t169 _ A19.out).mono ?_); rintro e w' ⟨rfl, ⟨nd, rfl⟩⟩))
                go_ret
                exact ⟨by first | rfl | (simp [errW_none, errW_some] <;> rfl) | (simp [*, errW_none, errW_some] <;> rfl) | (simp [*, errW_none, errW_some]; generalize ByteArray.toList _ = q_; cases q_ <;> rfl), by repeat (first | (with_reducible first | exact HB.out | apply below_alloc | apply pw_below_drewN | apply below_drew1) | exact HB.out)⟩
            · rw [if_neg c17] at H
              have c17b0 : (t166 == t167) = false := beq_eq_false_iff_ne.mpr c17
              have c17b1 : (t166 != t167) = true := bne_iff_ne.mpr c17
              obtain rfl := Option.some.inj H
              go_wp2_with (first | ((with_reducible refine gate_callee (f := 18) rfl ?_); refine goesL_ (some 32) rfl rfl Try.func18 (by kernel_rfl) rfl #[.int .i64 a1] rfl (by (try simp only [List.map_toArray, List.map_cons, List.map_nil]); first | done | rfl | (simp only [List.length_drop, List.length_take]; rfl)) ?_; (with_reducible refine (piece_Raw.calls a1 t166 _ A15.out).mono ?_); rintro e w' ⟨rfl, ⟨nd, rfl⟩⟩; refine ⟨_, rfl, ?_⟩) | ((with_reducible refine gate_callee (f := 19) rfl ?_); refine goesL_ (some 34) rfl rfl Try.func19 (by kernel_rfl) rfl #[.int .i64 a1] rfl (by (try simp only [List.map_toArray, List.map_cons, List.map_nil]); first | done | rfl | (simp only [List.length_drop, List.length_take]; rfl)) ?_; (with_reducible refine (kakugyoref02_Raw.calls kj10 a1 t167 _ A16.out).mono ?_); rintro e w' ⟨rfl, ⟨nd, rfl⟩⟩; refine ⟨_, rfl, ?_⟩))
              go_ret
              exact ⟨by first | rfl | (simp [errW_none, errW_some] <;> rfl) | (simp [*, errW_none, errW_some] <;> rfl) | (simp [*, errW_none, errW_some]; generalize ByteArray.toList _ = q_; cases q_ <;> rfl), by repeat (first | (with_reducible first | exact HB.out | apply below_alloc | apply pw_below_drewN | apply below_drew1) | exact HB.out)⟩
  · replace c4 := Bool.eq_false_iff.mpr c4
    subst c4
    have H1 : (some false) = some r := by rw [if_neg (show ¬ (false = true) by decide)] at H; exact H
    clear H
    have H := H1
    clear H1
    obtain rfl := Option.some.inj H
    go_enter Try.func5, Try.ntmps5
    go_wp2_with (first | ((with_reducible refine gate_callee (f := 10) rfl ?_); refine goesL_ (some 6) rfl rfl Try.func10 (by kernel_rfl) rfl #[] rfl (by (try simp only [List.map_toArray, List.map_cons, List.map_nil]); first | done | rfl | (simp only [List.length_drop, List.length_take]; rfl)) ?_; (with_reducible refine (kakugyolaw02_names.calls k  false _ A3.out).mono ?_); rintro e w24 ⟨rfl, hb⟩; refine ⟨_, rfl, ?_⟩; have n0_ := Aside0.mk (below_step (by repeat (first | (with_reducible first | exact HB.out | apply below_alloc | apply pw_below_drewN | apply below_drew1) | exact HB.out)) hb); clear HB; have HB := n0_; clear n0_; (try clear hb); (try clear hb2); (try clear hk); (try clear hi)))
    go_ret
    exact ⟨by first | rfl | (simp [errW_none, errW_some] <;> rfl) | (simp [*, errW_none, errW_some] <;> rfl) | (simp [*, errW_none, errW_some]; generalize ByteArray.toList _ = q_; cases q_ <;> rfl), by repeat (first | (with_reducible first | exact HB.out | apply below_alloc | apply pw_below_drewN | apply below_drew1) | exact HB.out)⟩

/-- THE ONE PURE STATEMENT of kakugyolaw02_PieceOf: yours. -/
def kakugyolaw02_PieceOf.Pure : Prop := ∀ (a0 : Int) (a1 : Int), (Lit.int .i64 a0).wf = true → (Lit.int .i64 a1).wf = true → ∃ k, kakugyolaw02_PieceOf.f k a0 a1 = some true
theorem kakugyolaw02_PieceOf.walk (P : kakugyolaw02_PieceOf.Pure) (a0 : Int) (a1 : Int) (w : World) (w0 : (Lit.int .i64 a0).wf = true) (w1 : (Lit.int .i64 a1).wf = true) :
    Calls Try.prog 5 #[.int .i64 a0, .int .i64 a1] w fun e w' => e = .returned (.bool true) ∧ Below w.heap.size w w' := by
  obtain ⟨k, h⟩ := P a0 a1 w0 w1
  refine (kakugyolaw02_PieceOf.calls k a0 a1 true w h).mono ?_
  rintro e w' ⟨rfl, hd⟩
  exact ⟨rfl, hd⟩

/-! ### kakugyolaw02_PieceSet: function 6 -/
mutual
def kakugyolaw02_PieceSet.l0 : Nat → Int → Int → Int → Option (Bool)
  | 0, _, _, _ => none
  | k + 1, x0, x3, x4 => if x4 ≤ 8 then ((piece_Total.f k x4).bind fun t173 => (kakugyolaw02_PieceSet.l0 k x0 (wrap64 (x3 + t173)) (wrap64 (x4 + 1)))) else (if x0 < 1 then (kakugyolaw02_PieceSet.j1 k x0 x3 true) else (kakugyolaw02_PieceSet.j1 k x0 x3 (decide (x0 > 8))))
def kakugyolaw02_PieceSet.j1 : Nat → Int → Int → Bool → Option (Bool)
  | 0, _, _, _ => none
  | k + 1, x0, x3, x21 => if x21 = true then (if x3 = 40 then ((piece_Up.f x0).bind fun t174 => (some (t174 == 0))) else (some false)) else ((piece_Up.f x0).bind fun t175 => (if x0 = 5 then (kakugyolaw02_PieceSet.j2 k x0 x3 t175 true) else (kakugyolaw02_PieceSet.j2 k x0 x3 t175 (x0 == 8))))
def kakugyolaw02_PieceSet.j2 : Nat → Int → Int → Int → Bool → Option (Bool)
  | 0, _, _, _, _ => none
  | k + 1, x0, x3, x5, x36 => if x36 = true then (if x3 = 40 then (some (x5 == 0)) else (some false)) else (if x3 = 40 then (if x5 = (wrap64 (x0 + 8)) then ((piece_Raw.f x5).bind fun t176 => (if t176 = x0 then ((piece_Up.f x5).bind fun t177 => (if t177 = 0 then ((piece_Of.f 0 x5).bind fun t178 => ((piece_Name.f k t178).bind fun t179 => (some ((t179.size : Int) == 2)))) else (some false))) else (some false))) else (some false)) else (some false))
end
def kakugyolaw02_PieceSet.f (k : Nat) (a0 : Int) : Option (Bool) := (kakugyolaw02_names.f k).bind fun t172 => (if t172 = true then (kakugyolaw02_PieceSet.l0 k a0 0 1) else (some false))
theorem kakugyolaw02_PieceSet.mono_l : ∀ k, (∀ y0 y1 y2, LeO (kakugyolaw02_PieceSet.l0 k y0 y1 y2) (kakugyolaw02_PieceSet.l0 (k + 1) y0 y1 y2)) ∧ (∀ y0 y1 y2, LeO (kakugyolaw02_PieceSet.j1 k y0 y1 y2) (kakugyolaw02_PieceSet.j1 (k + 1) y0 y1 y2)) ∧ (∀ y0 y1 y2 y3, LeO (kakugyolaw02_PieceSet.j2 k y0 y1 y2 y3) (kakugyolaw02_PieceSet.j2 (k + 1) y0 y1 y2 y3))
  | 0 => ⟨fun _ _ _ r h => by simp [kakugyolaw02_PieceSet.l0] at h, fun _ _ _ r h => by simp [kakugyolaw02_PieceSet.j1] at h, fun _ _ _ _ r h => by simp [kakugyolaw02_PieceSet.j2] at h⟩
  | k + 1 => by
    obtain ⟨ih0, ih1, ih2⟩ := kakugyolaw02_PieceSet.mono_l k
    refine ⟨?_, ?_, ?_⟩
    · intro y0 y1 y2
      unfold kakugyolaw02_PieceSet.l0
      repeat' first
      | (with_reducible exact ih0 _ _ _)
      | (with_reducible exact ih1 _ _ _)
      | (with_reducible exact ih2 _ _ _ _)
      | (with_reducible exact kakugyolaw02_names.mono _)
      | (with_reducible exact piece_Name.mono _ _)
      | (with_reducible exact piece_Total.mono _ _)
      | (with_reducible exact LeO.refl _)
      | (with_reducible exact LeO.none _)
      | (with_reducible refine LeO.ite ?_ ?_)
      | (with_reducible refine LeO.bind ?_ (fun _ => ?_))
      | exact ih0 _ _ _
      | exact ih1 _ _ _
      | exact ih2 _ _ _ _
      | exact kakugyolaw02_names.mono _
      | exact piece_Name.mono _ _
      | exact piece_Total.mono _ _
      | exact LeO.none _
      | refine LeO.ite ?_ ?_
      | refine LeO.bind ?_ (fun _ => ?_)
    · intro y0 y1 y2
      unfold kakugyolaw02_PieceSet.j1
      repeat' first
      | (with_reducible exact ih0 _ _ _)
      | (with_reducible exact ih1 _ _ _)
      | (with_reducible exact ih2 _ _ _ _)
      | (with_reducible exact kakugyolaw02_names.mono _)
      | (with_reducible exact piece_Name.mono _ _)
      | (with_reducible exact piece_Total.mono _ _)
      | (with_reducible exact LeO.refl _)
      | (with_reducible exact LeO.none _)
      | (with_reducible refine LeO.ite ?_ ?_)
      | (with_reducible refine LeO.bind ?_ (fun _ => ?_))
      | exact ih0 _ _ _
      | exact ih1 _ _ _
      | exact ih2 _ _ _ _
      | exact kakugyolaw02_names.mono _
      | exact piece_Name.mono _ _
      | exact piece_Total.mono _ _
      | exact LeO.none _
      | refine LeO.ite ?_ ?_
      | refine LeO.bind ?_ (fun _ => ?_)
    · intro y0 y1 y2 y3
      unfold kakugyolaw02_PieceSet.j2
      repeat' first
      | (with_reducible exact ih0 _ _ _)
      | (with_reducible exact ih1 _ _ _)
      | (with_reducible exact ih2 _ _ _ _)
      | (with_reducible exact kakugyolaw02_names.mono _)
      | (with_reducible exact piece_Name.mono _ _)
      | (with_reducible exact piece_Total.mono _ _)
      | (with_reducible exact LeO.refl _)
      | (with_reducible exact LeO.none _)
      | (with_reducible refine LeO.ite ?_ ?_)
      | (with_reducible refine LeO.bind ?_ (fun _ => ?_))
      | exact ih0 _ _ _
      | exact ih1 _ _ _
      | exact ih2 _ _ _ _
      | exact kakugyolaw02_names.mono _
      | exact piece_Name.mono _ _
      | exact piece_Total.mono _ _
      | exact LeO.none _
      | refine LeO.ite ?_ ?_
      | refine LeO.bind ?_ (fun _ => ?_)
theorem kakugyolaw02_PieceSet.mono : ∀ a0 k, LeO (kakugyolaw02_PieceSet.f k a0) (kakugyolaw02_PieceSet.f (k + 1) a0) := by
  intro a0 k
  obtain ⟨ih0, ih1, ih2⟩ := kakugyolaw02_PieceSet.mono_l k
  unfold kakugyolaw02_PieceSet.f
  repeat' first
      | (with_reducible exact ih0 _ _ _)
      | (with_reducible exact ih1 _ _ _)
      | (with_reducible exact ih2 _ _ _ _)
      | (with_reducible exact kakugyolaw02_names.mono _)
      | (with_reducible exact piece_Name.mono _ _)
      | (with_reducible exact piece_Total.mono _ _)
      | (with_reducible exact LeO.refl _)
      | (with_reducible exact LeO.none _)
      | (with_reducible refine LeO.ite ?_ ?_)
      | (with_reducible refine LeO.bind ?_ (fun _ => ?_))
      | exact ih0 _ _ _
      | exact ih1 _ _ _
      | exact ih2 _ _ _ _
      | exact kakugyolaw02_names.mono _
      | exact piece_Name.mono _ _
      | exact piece_Total.mono _ _
      | exact LeO.none _
      | refine LeO.ite ?_ ?_
      | refine LeO.bind ?_ (fun _ => ?_)
set_option maxHeartbeats 8000000 in
set_option maxRecDepth 100000 in
theorem kakugyolaw02_PieceSet.calls (k : Nat) (a0 : Int) (r : Bool) (w : World) (h : kakugyolaw02_PieceSet.f k a0 = some r) :
    Calls Try.prog 6 #[.int .i64 a0] w fun e w' => e = .returned (.bool r) ∧ Below w.heap.size w w' := by
  have HB := Aside0.mk (Below.refl w.heap.size w)
  have H : ((kakugyolaw02_names.f k).bind fun t172 => (if t172 = true then (kakugyolaw02_PieceSet.l0 k a0 0 1) else (some false))) = some r := h
  clear h
  replace H := Option.bind_eq_some_iff.mp H
  obtain ⟨t172, A20, H⟩ := H
  replace H : (if t172 = true then (kakugyolaw02_PieceSet.l0 k a0 0 1) else (some false)) = some r := H
  have A2 := Aside0.mk A20
  clear A20
  by_cases c3 : t172 = true
  · subst c3
    have H1 : (kakugyolaw02_PieceSet.l0 k a0 0 1) = some r := by rw [if_pos rfl] at H; exact H
    clear H
    have H := H1
    clear H1
    have H' := Aside0.mk H
    clear H
    go_enter Try.func6, Try.ntmps6
    go_wp2_with (first | ((with_reducible refine gate_callee (f := 10) rfl ?_); refine goesL_ (some 6) rfl rfl Try.func10 (by kernel_rfl) rfl #[] rfl (by (try simp only [List.map_toArray, List.map_cons, List.map_nil]); first | done | rfl | (simp only [List.length_drop, List.length_take]; rfl)) ?_; (with_reducible refine (kakugyolaw02_names.calls k  true _ A2.out).mono ?_); rintro e w4 ⟨rfl, hb⟩; refine ⟨_, rfl, ?_⟩; have n0_ := Aside0.mk (below_step (by repeat (first | (with_reducible first | exact HB.out | apply below_alloc | apply pw_below_drewN | apply below_drew1) | exact HB.out)) hb); clear HB; have HB := n0_; clear n0_; (try clear hb); (try clear hb2); (try clear hk); (try clear hi)))
    go_loopg [3, 4] k (fun kq v3 v4 w' => ∃ (x3_1 : Int) (x4_1 : Int), v3 = .int .i64 x3_1 ∧ v4 = .int .i64 x4_1 ∧ Aside0 (kakugyolaw02_PieceSet.l0 kq a0 x3_1 x4_1 = some r) ∧ Aside0 (kq ≤ k) ∧ Aside0 (Below w.heap.size w w'))
    case atStart => exact ⟨(0), (1), (by first | rfl | (simp; done) | (simp [*]; done)), (by first | rfl | (simp; done) | (simp [*]; done)), H', ⟨Nat.le_refl _⟩, ⟨by repeat (first | (with_reducible first | exact HB.out | apply below_alloc | apply pw_below_drewN | apply below_drew1) | exact HB.out)⟩⟩
    case round =>
      clear H'
      try clear c1
      try clear p2
      try clear c3
      obtain ⟨x3_1, x4_1, rfl, rfl, HA, HK1, HB⟩ := hrel
      cases gk with
      | zero => exact absurd HA.out (by simp [kakugyolaw02_PieceSet.l0])
      | succ k1 =>
        have H := HA.out
        clear HA
        simp only [kakugyolaw02_PieceSet.l0] at H
        by_cases c5 : x4_1 ≤ 8
        · rw [if_pos c5] at H
          have c5b0 : decide (x4_1 ≤ 8) = true := decide_eq_true c5
          clear c5
          replace H := Option.bind_eq_some_iff.mp H
          obtain ⟨t173, A60, H⟩ := H
          replace H : (kakugyolaw02_PieceSet.l0 k1 a0 (wrap64 (x3_1 + t173)) (wrap64 (x4_1 + 1))) = some r := H
          have A6 := Aside0.mk A60
          clear A60
          have H' := Aside0.mk H
          clear H
          go_wp2_with (first | ((with_reducible refine gate_callee (f := 25) rfl ?_); refine goesL_ (some 14) rfl rfl Try.func25 (by kernel_rfl) rfl #[.int .i64 x4_1] rfl (by (try simp only [List.map_toArray, List.map_cons, List.map_nil]); first | done | rfl | (simp only [List.length_drop, List.length_take]; rfl)) ?_; (with_reducible refine (piece_Total.calls k1 x4_1 t173 _ A6.out).mono ?_); rintro e w' ⟨rfl, ⟨nd, rfl⟩⟩; refine ⟨_, rfl, ?_⟩))
          go_roundg k1
          case measure => have := HK1.out; omega
          case rel => exact ⟨(wrap64 (x3_1 + t173)), (wrap64 (x4_1 + 1)), (by first | rfl | (simp; done) | (simp [*]; done)), (by first | rfl | (simp; done) | (simp [*]; done)), H', ⟨by have := HK1.out; omega⟩, ⟨by repeat (first | (with_reducible first | exact HB.out | apply below_alloc | apply pw_below_drewN | apply below_drew1) | exact HB.out)⟩⟩
        · rw [if_neg c5] at H
          have c5b0 : decide (x4_1 ≤ 8) = false := decide_eq_false c5
          clear c5
          have HC7 := Aside0.mk H
          clear H
          go_upto_region 8 with (fail)
          go_cut [21] (fun v21 wc => ∃ (kq : Nat) (x21_6 : Bool), v21 = .bool x21_6 ∧ Aside0 (kakugyolaw02_PieceSet.j1 kq a0 x3_1 x21_6 = some r) ∧ Aside0 (kq ≤ k1) ∧ Aside0 (Below w.heap.size w wc))
          case first =>
            have H := HC7.out
            clear HC7
            by_cases c8 : a0 < 1
            · rw [if_pos c8] at H
              have c8b0 : decide (a0 < 1) = true := decide_eq_true c8
              clear c8
              (first | rw [c8b0] | (simp only [i64_w, i32_w]; rw [c8b0]) | skip)
              have H' := Aside0.mk H
              clear H
              go_wp2
              go_meet
              case rel => exact ⟨_, (true), (by first | rfl | (simp; done) | (simp [*]; done)), H', ⟨by have := HK1.out; first | omega | exact Nat.le_refl _⟩, ⟨by repeat (first | (with_reducible first | exact HB.out | apply below_alloc | apply pw_below_drewN | apply below_drew1) | exact HB.out)⟩⟩
            · rw [if_neg c8] at H
              have c8b0 : decide (a0 < 1) = false := decide_eq_false c8
              clear c8
              (first | rw [c8b0] | (simp only [i64_w, i32_w]; rw [c8b0]) | skip)
              have H' := Aside0.mk H
              clear H
              go_wp2
              go_meet
              case rel => exact ⟨_, (decide (a0 > 8)), (by first | rfl | (simp; done) | (simp [*]; done)), H', ⟨by have := HK1.out; first | omega | exact Nat.le_refl _⟩, ⟨by repeat (first | (with_reducible first | exact HB.out | apply below_alloc | apply pw_below_drewN | apply below_drew1) | exact HB.out)⟩⟩
          case rest =>
            clear HC7
            try clear c1
            try clear c2
            try clear p2
            try clear c3
            try clear c5
            try clear c5b0
            try clear c6
            try clear p6
            try clear c8
            try clear c8b0
            try clear p2
            obtain ⟨kq, x21_6, rfl, HA, HJ6, HB⟩ := hcut
            cases kq with
            | zero => exact absurd HA.out (by simp [kakugyolaw02_PieceSet.j1])
            | succ kj6 =>
              have H := HA.out
              clear HA
              simp only [kakugyolaw02_PieceSet.j1] at H
              by_cases c9 : x21_6 = true
              · subst c9
                have H1 : (if x3_1 = 40 then ((piece_Up.f a0).bind fun t174 => (some (t174 == 0))) else (some false)) = some r := by rw [if_pos rfl] at H; exact H
                clear H
                have H := H1
                clear H1
                by_cases c10 : x3_1 = 40
                · rw [if_pos c10] at H
                  have c10b0 : (x3_1 == 40) = true := beq_iff_eq.mpr c10
                  have c10b1 : (x3_1 != 40) = false := bne_eq_false_iff_eq.mpr c10
                  clear c10
                  replace H := Option.bind_eq_some_iff.mp H
                  obtain ⟨t174, A110, H⟩ := H
                  replace H : (some (t174 == 0)) = some r := H
                  have A11 := Aside0.mk A110
                  clear A110
                  obtain rfl := Option.some.inj H
                  go_wp2_with (first | (go_at_call 23; (with_reducible refine (piece_Up.calls a0 t174 _ A11.out).mono ?_); rintro e w' ⟨rfl, ⟨nd, rfl⟩⟩))
                  go_ret
                  exact ⟨by first | rfl | (simp [errW_none, errW_some] <;> rfl) | (simp [*, errW_none, errW_some] <;> rfl) | (simp [*, errW_none, errW_some]; generalize ByteArray.toList _ = q_; cases q_ <;> rfl), by repeat (first | (with_reducible first | exact HB.out | apply below_alloc | apply pw_below_drewN | apply below_drew1) | exact HB.out)⟩
                · rw [if_neg c10] at H
                  have c10b0 : (x3_1 == 40) = false := beq_eq_false_iff_ne.mpr c10
                  have c10b1 : (x3_1 != 40) = true := bne_iff_ne.mpr c10
                  obtain rfl := Option.some.inj H
                  go_wp2
                  go_ret
                  exact ⟨by first | rfl | (simp [errW_none, errW_some] <;> rfl) | (simp [*, errW_none, errW_some] <;> rfl) | (simp [*, errW_none, errW_some]; generalize ByteArray.toList _ = q_; cases q_ <;> rfl), by repeat (first | (with_reducible first | exact HB.out | apply below_alloc | apply pw_below_drewN | apply below_drew1) | exact HB.out)⟩
              · replace c9 := Bool.eq_false_iff.mpr c9
                subst c9
                have H1 : ((piece_Up.f a0).bind fun t175 => (if a0 = 5 then (kakugyolaw02_PieceSet.j2 kj6 a0 x3_1 t175 true) else (kakugyolaw02_PieceSet.j2 kj6 a0 x3_1 t175 (a0 == 8)))) = some r := by rw [if_neg (show ¬ (false = true) by decide)] at H; exact H
                clear H
                have H := H1
                clear H1
                replace H := Option.bind_eq_some_iff.mp H
                obtain ⟨t175, A120, H⟩ := H
                replace H : (if a0 = 5 then (kakugyolaw02_PieceSet.j2 kj6 a0 x3_1 t175 true) else (kakugyolaw02_PieceSet.j2 kj6 a0 x3_1 t175 (a0 == 8))) = some r := H
                have A12 := Aside0.mk A120
                clear A120
                have HC13 := Aside0.mk H
                clear H
                go_upto_region 11 with (first | ((with_reducible refine gate_callee (f := 23) rfl ?_); refine goesL_ (some 30) rfl rfl Try.func23 (by kernel_rfl) rfl #[.int .i64 a0] rfl (by (try simp only [List.map_toArray, List.map_cons, List.map_nil]); first | done | rfl | (simp only [List.length_drop, List.length_take]; rfl)) ?_; (with_reducible refine (piece_Up.calls a0 t175 _ A12.out).mono ?_); rintro e w' ⟨rfl, ⟨nd, rfl⟩⟩; refine ⟨_, rfl, ?_⟩))
                (try simp only [Act.put, List.setIfInBounds_toArray, List.set_cons_zero, List.set_cons_succ])
                go_cut [36] (fun v36 wc => ∃ (kq : Nat) (x36_12 : Bool), v36 = .bool x36_12 ∧ Aside0 (kakugyolaw02_PieceSet.j2 kq a0 x3_1 t175 x36_12 = some r) ∧ Aside0 (kq ≤ kj6) ∧ Aside0 (Below w.heap.size w wc))
                case first =>
                  have H := HC13.out
                  clear HC13
                  by_cases c14 : a0 = 5
                  · rw [if_pos c14] at H
                    have c14b0 : (a0 == 5) = true := beq_iff_eq.mpr c14
                    have c14b1 : (a0 != 5) = false := bne_eq_false_iff_eq.mpr c14
                    clear c14
                    (first | rw [c14b0] | (simp only [i64_w, i32_w]; rw [c14b0]) | skip)
                    have H' := Aside0.mk H
                    clear H
                    go_wp2
                    go_meet
                    case rel => exact ⟨_, (true), (by first | rfl | (simp; done) | (simp [*]; done)), H', ⟨by have := HK1.out; have := HJ6.out; first | omega | exact Nat.le_refl _⟩, ⟨by repeat (first | (with_reducible first | exact HB.out | apply below_alloc | apply pw_below_drewN | apply below_drew1) | exact HB.out)⟩⟩
                  · rw [if_neg c14] at H
                    have c14b0 : (a0 == 5) = false := beq_eq_false_iff_ne.mpr c14
                    have c14b1 : (a0 != 5) = true := bne_iff_ne.mpr c14
                    (first | rw [c14b0] | (simp only [i64_w, i32_w]; rw [c14b0]) | skip)
                    have H' := Aside0.mk H
                    clear H
                    go_wp2
                    go_meet
                    case rel => exact ⟨_, ((a0 == 8)), (by first | rfl | (simp; done) | (simp [*]; done)), H', ⟨by have := HK1.out; have := HJ6.out; first | omega | exact Nat.le_refl _⟩, ⟨by repeat (first | (with_reducible first | exact HB.out | apply below_alloc | apply pw_below_drewN | apply below_drew1) | exact HB.out)⟩⟩
                case rest =>
                  clear HC13
                  try clear c1
                  try clear c2
                  try clear p2
                  try clear c3
                  try clear c5
                  try clear c5b0
                  try clear c6
                  try clear p6
                  try clear c8
                  try clear c8b0
                  try clear c9
                  try clear c10
                  try clear c10b0
                  try clear c10b1
                  try clear c14
                  try clear c14b0
                  try clear c14b1
                  try clear p2
                  try clear p6
                  obtain ⟨kq, x36_12, rfl, HA, HJ12, HB⟩ := hcut
                  cases kq with
                  | zero => exact absurd HA.out (by simp [kakugyolaw02_PieceSet.j2])
                  | succ kj12 =>
                    have H := HA.out
                    clear HA
                    simp only [kakugyolaw02_PieceSet.j2] at H
                    by_cases c15 : x36_12 = true
                    · subst c15
                      have H1 : (if x3_1 = 40 then (some (t175 == 0)) else (some false)) = some r := by rw [if_pos rfl] at H; exact H
                      clear H
                      have H := H1
                      clear H1
                      by_cases c16 : x3_1 = 40
                      · rw [if_pos c16] at H
                        have c16b0 : (x3_1 == 40) = true := beq_iff_eq.mpr c16
                        have c16b1 : (x3_1 != 40) = false := bne_eq_false_iff_eq.mpr c16
                        clear c16
                        obtain rfl := Option.some.inj H
                        go_wp2
                        go_ret
                        exact ⟨by first | rfl | (simp [errW_none, errW_some] <;> rfl) | (simp [*, errW_none, errW_some] <;> rfl) | (simp [*, errW_none, errW_some]; generalize ByteArray.toList _ = q_; cases q_ <;> rfl), by repeat (first | (with_reducible first | exact HB.out | apply below_alloc | apply pw_below_drewN | apply below_drew1) | exact HB.out)⟩
                      · rw [if_neg c16] at H
                        have c16b0 : (x3_1 == 40) = false := beq_eq_false_iff_ne.mpr c16
                        have c16b1 : (x3_1 != 40) = true := bne_iff_ne.mpr c16
                        obtain rfl := Option.some.inj H
                        go_wp2
                        go_ret
                        exact ⟨by first | rfl | (simp [errW_none, errW_some] <;> rfl) | (simp [*, errW_none, errW_some] <;> rfl) | (simp [*, errW_none, errW_some]; generalize ByteArray.toList _ = q_; cases q_ <;> rfl), by repeat (first | (with_reducible first | exact HB.out | apply below_alloc | apply pw_below_drewN | apply below_drew1) | exact HB.out)⟩
                    · replace c15 := Bool.eq_false_iff.mpr c15
                      subst c15
                      have H1 : (if x3_1 = 40 then (if t175 = (wrap64 (a0 + 8)) then ((piece_Raw.f t175).bind fun t176 => (if t176 = a0 then ((piece_Up.f t175).bind fun t177 => (if t177 = 0 then ((piece_Of.f 0 t175).bind fun t178 => ((piece_Name.f kj12 t178).bind fun t179 => (some ((t179.size : Int) == 2)))) else (some false))) else (some false))) else (some false)) else (some false)) = some r := by rw [if_neg (show ¬ (false = true) by decide)] at H; exact H
                      clear H
                      have H := H1
                      clear H1
                      by_cases c17 : x3_1 = 40
                      · rw [if_pos c17] at H
                        have c17b0 : (x3_1 == 40) = true := beq_iff_eq.mpr c17
                        have c17b1 : (x3_1 != 40) = false := bne_eq_false_iff_eq.mpr c17
                        clear c17
                        by_cases c18 : t175 = (wrap64 (a0 + 8))
                        · rw [if_pos c18] at H
                          have c18b0 : (t175 == (wrap64 (a0 + 8))) = true := beq_iff_eq.mpr c18
                          have c18b1 : (t175 != (wrap64 (a0 + 8))) = false := bne_eq_false_iff_eq.mpr c18
                          clear c18
                          replace H := Option.bind_eq_some_iff.mp H
                          obtain ⟨t176, A190, H⟩ := H
                          replace H : (if t176 = a0 then ((piece_Up.f t175).bind fun t177 => (if t177 = 0 then ((piece_Of.f 0 t175).bind fun t178 => ((piece_Name.f kj12 t178).bind fun t179 => (some ((t179.size : Int) == 2)))) else (some false))) else (some false)) = some r := H
                          have A19 := Aside0.mk A190
                          clear A190
                          by_cases c20 : t176 = a0
                          · rw [if_pos c20] at H
                            have c20b0 : (t176 == a0) = true := beq_iff_eq.mpr c20
                            have c20b1 : (t176 != a0) = false := bne_eq_false_iff_eq.mpr c20
                            clear c20
                            replace H := Option.bind_eq_some_iff.mp H
                            obtain ⟨t177, A210, H⟩ := H
                            replace H : (if t177 = 0 then ((piece_Of.f 0 t175).bind fun t178 => ((piece_Name.f kj12 t178).bind fun t179 => (some ((t179.size : Int) == 2)))) else (some false)) = some r := H
                            have A21 := Aside0.mk A210
                            clear A210
                            by_cases c22 : t177 = 0
                            · rw [if_pos c22] at H
                              have c22b0 : (t177 == 0) = true := beq_iff_eq.mpr c22
                              have c22b1 : (t177 != 0) = false := bne_eq_false_iff_eq.mpr c22
                              clear c22
                              replace H := Option.bind_eq_some_iff.mp H
                              obtain ⟨t178, A230, H⟩ := H
                              replace H : ((piece_Name.f kj12 t178).bind fun t179 => (some ((t179.size : Int) == 2))) = some r := H
                              have A23 := Aside0.mk A230
                              clear A230
                              replace H := Option.bind_eq_some_iff.mp H
                              obtain ⟨t179, A240, H⟩ := H
                              replace H : (some ((t179.size : Int) == 2)) = some r := H
                              have A24 := Aside0.mk A240
                              clear A240
                              obtain rfl := Option.some.inj H
                              go_wp2_with (first | (go_at_call 18; (with_reducible refine (piece_Raw.calls t175 t176 _ A19.out).mono ?_); rintro e w' ⟨rfl, ⟨nd, rfl⟩⟩) | (go_at_call 23; (with_reducible refine (piece_Up.calls t175 t177 _ A21.out).mono ?_); rintro e w' ⟨rfl, ⟨nd, rfl⟩⟩) | (go_at_call 17; (with_reducible refine (piece_Of.calls 0 t175 t178 _ A23.out).mono ?_); rintro e w' ⟨rfl, ⟨nd, rfl⟩⟩) | (go_at_call 15; (with_reducible refine (piece_Name.calls kj12 t178 t179 _ A24.out).mono ?_); rintro e w25 ⟨rfl, hb⟩; have n0_ := Aside0.mk (below_step (by repeat (first | (with_reducible first | exact HB.out | apply below_alloc | apply pw_below_drewN | apply below_drew1) | exact HB.out)) hb); clear HB; have HB := n0_; clear n0_; (try clear hb); (try clear hb2); (try clear hk); (try clear hi)))
                              go_ret
                              exact ⟨by first | rfl | (simp [errW_none, errW_some] <;> rfl) | (simp [*, errW_none, errW_some] <;> rfl) | (simp [*, errW_none, errW_some]; generalize ByteArray.toList _ = q_; cases q_ <;> rfl), by repeat (first | (with_reducible first | exact HB.out | apply below_alloc | apply pw_below_drewN | apply below_drew1) | exact HB.out)⟩
                            · rw [if_neg c22] at H
                              have c22b0 : (t177 == 0) = false := beq_eq_false_iff_ne.mpr c22
                              have c22b1 : (t177 != 0) = true := bne_iff_ne.mpr c22
                              obtain rfl := Option.some.inj H
                              go_wp2_with (first | (go_at_call 18; (with_reducible refine (piece_Raw.calls t175 t176 _ A19.out).mono ?_); rintro e w' ⟨rfl, ⟨nd, rfl⟩⟩) | (go_at_call 23; (with_reducible refine (piece_Up.calls t175 t177 _ A21.out).mono ?_); rintro e w' ⟨rfl, ⟨nd, rfl⟩⟩))
                              go_ret
                              exact ⟨by first | rfl | (simp [errW_none, errW_some] <;> rfl) | (simp [*, errW_none, errW_some] <;> rfl) | (simp [*, errW_none, errW_some]; generalize ByteArray.toList _ = q_; cases q_ <;> rfl), by repeat (first | (with_reducible first | exact HB.out | apply below_alloc | apply pw_below_drewN | apply below_drew1) | exact HB.out)⟩
                          · rw [if_neg c20] at H
                            have c20b0 : (t176 == a0) = false := beq_eq_false_iff_ne.mpr c20
                            have c20b1 : (t176 != a0) = true := bne_iff_ne.mpr c20
                            obtain rfl := Option.some.inj H
                            go_wp2_with (first | (go_at_call 18; (with_reducible refine (piece_Raw.calls t175 t176 _ A19.out).mono ?_); rintro e w' ⟨rfl, ⟨nd, rfl⟩⟩))
                            go_ret
                            exact ⟨by first | rfl | (simp [errW_none, errW_some] <;> rfl) | (simp [*, errW_none, errW_some] <;> rfl) | (simp [*, errW_none, errW_some]; generalize ByteArray.toList _ = q_; cases q_ <;> rfl), by repeat (first | (with_reducible first | exact HB.out | apply below_alloc | apply pw_below_drewN | apply below_drew1) | exact HB.out)⟩
                        · rw [if_neg c18] at H
                          have c18b0 : (t175 == (wrap64 (a0 + 8))) = false := beq_eq_false_iff_ne.mpr c18
                          have c18b1 : (t175 != (wrap64 (a0 + 8))) = true := bne_iff_ne.mpr c18
                          obtain rfl := Option.some.inj H
                          go_wp2
                          go_ret
                          exact ⟨by first | rfl | (simp [errW_none, errW_some] <;> rfl) | (simp [*, errW_none, errW_some] <;> rfl) | (simp [*, errW_none, errW_some]; generalize ByteArray.toList _ = q_; cases q_ <;> rfl), by repeat (first | (with_reducible first | exact HB.out | apply below_alloc | apply pw_below_drewN | apply below_drew1) | exact HB.out)⟩
                      · rw [if_neg c17] at H
                        have c17b0 : (x3_1 == 40) = false := beq_eq_false_iff_ne.mpr c17
                        have c17b1 : (x3_1 != 40) = true := bne_iff_ne.mpr c17
                        obtain rfl := Option.some.inj H
                        go_wp2
                        go_ret
                        exact ⟨by first | rfl | (simp [errW_none, errW_some] <;> rfl) | (simp [*, errW_none, errW_some] <;> rfl) | (simp [*, errW_none, errW_some]; generalize ByteArray.toList _ = q_; cases q_ <;> rfl), by repeat (first | (with_reducible first | exact HB.out | apply below_alloc | apply pw_below_drewN | apply below_drew1) | exact HB.out)⟩
  · replace c3 := Bool.eq_false_iff.mpr c3
    subst c3
    have H1 : (some false) = some r := by rw [if_neg (show ¬ (false = true) by decide)] at H; exact H
    clear H
    have H := H1
    clear H1
    obtain rfl := Option.some.inj H
    go_enter Try.func6, Try.ntmps6
    go_wp2_with (first | ((with_reducible refine gate_callee (f := 10) rfl ?_); refine goesL_ (some 6) rfl rfl Try.func10 (by kernel_rfl) rfl #[] rfl (by (try simp only [List.map_toArray, List.map_cons, List.map_nil]); first | done | rfl | (simp only [List.length_drop, List.length_take]; rfl)) ?_; (with_reducible refine (kakugyolaw02_names.calls k  false _ A2.out).mono ?_); rintro e w26 ⟨rfl, hb⟩; refine ⟨_, rfl, ?_⟩; have n0_ := Aside0.mk (below_step (by repeat (first | (with_reducible first | exact HB.out | apply below_alloc | apply pw_below_drewN | apply below_drew1) | exact HB.out)) hb); clear HB; have HB := n0_; clear n0_; (try clear hb); (try clear hb2); (try clear hk); (try clear hi)))
    go_ret
    exact ⟨by first | rfl | (simp [errW_none, errW_some] <;> rfl) | (simp [*, errW_none, errW_some] <;> rfl) | (simp [*, errW_none, errW_some]; generalize ByteArray.toList _ = q_; cases q_ <;> rfl), by repeat (first | (with_reducible first | exact HB.out | apply below_alloc | apply pw_below_drewN | apply below_drew1) | exact HB.out)⟩

/-- THE ONE PURE STATEMENT of kakugyolaw02_PieceSet: yours. -/
def kakugyolaw02_PieceSet.Pure : Prop := ∀ (a0 : Int), (Lit.int .i64 a0).wf = true → ∃ k, kakugyolaw02_PieceSet.f k a0 = some true
theorem kakugyolaw02_PieceSet.walk (P : kakugyolaw02_PieceSet.Pure) (a0 : Int) (w : World) (w0 : (Lit.int .i64 a0).wf = true) :
    Calls Try.prog 6 #[.int .i64 a0] w fun e w' => e = .returned (.bool true) ∧ Below w.heap.size w w' := by
  obtain ⟨k, h⟩ := P a0 w0
  refine (kakugyolaw02_PieceSet.calls k a0 true w h).mono ?_
  rintro e w' ⟨rfl, hd⟩
  exact ⟨rfl, hd⟩

end Go.Proofs.Ytnmfkhnddnohjaa.Pa
