-- Printed by a program of this session: the kit's printer, with contracts of this session's own among its functions.
import Derived.Test.YtmoeodcmfjnihaaPax0
import Derived.Test.YtmoeodcmfjnihaaPax2
import Derived.Test.YtmoeodcmfjnihaaPax3
import Derived.Test.YtmoeodcmfjnihaaPax4
import Derived.Test.YtmoeodcmfjnihaaPax6
namespace Go.Proofs.Ytmoeodcmfjnihaa.Pa
open Go.RowKit Go.Proofs.YtmoeodcmfjnihaaW.PrintWords Go.Proofs.YtmoeodcmfjnihaaW.PrintLast Go.Proofs.YtmoeodcmfjnihaaW.PrintMore
attribute [local go_sem] max2_int min2_int max_two min_two max_three min_three max_four min_four   -- for this text's walks alone
set_option linter.unusedVariables false
set_option linter.unusedSimpArgs false

attribute [local go_sem high] eqA30
/-! ### kakugyolaw03_StepTurns: function 4 -/
mutual
def kakugyolaw03_StepTurns.j0 : Nat → Int → Int → Bool → Option (Bool)
  | 0, _, _, _ => none
  | k + 1, x0, x1, x26 => if x26 = true then (some true) else ((step_Of.f k (IntKind.i8.wrap (x0)) x1).bind fun bt203 => ((step_Of.f k (IntKind.i8.wrap (wrap64 (x0 + 16))) (wrap64 (80 - x1))).bind fun bt205 => (kakugyolaw03_StepTurns.l0 k x0 x1 0 bt203.1 bt203.2 bt205.1 bt205.2)))
def kakugyolaw03_StepTurns.l0 : Nat → Int → Int → Int → Int → Int → Int → Int → Option (Bool)
  | 0, _, _, _, _, _, _, _ => none
  | k + 1, x0, x1, x7, x208000, x208001, x209000, x209001 => if x7 < 81 then ((set_Set_Has.f k x208000 x208001 x7).bind fun t209 => ((set_Set_Has.f k x209000 x209001 (wrap64 (80 - x7))).bind fun t210 => (if (t209 != t210) = true then (some false) else (kakugyolaw03_StepTurns.l0 k x0 x1 (wrap64 (x7 + 1)) x208000 x208001 x209000 x209001)))) else ((step_Dirs.f k x0).bind fun t212 => (kakugyolaw03_StepTurns.l1 k x1 t212 (t212.length : Int) 0 x208000 x208001 x209000 x209001 0 0))
def kakugyolaw03_StepTurns.l1 : Nat → Int → List (S23) → Int → Int → Int → Int → Int → Int → Int → Int → Option (Bool)
  | 0, _, _, _, _, _, _, _, _, _, _ => none
  | k + 1, x1, x51, x52, x53, x208000, x208001, x209000, x209001, x212000, x212001 => if x53 < x52 then (if 0 ≤ x53 then (if x53 < (x51.length : Int) then ((step_Dir_From.f ((rd_T23 x51 x53).f0) ((rd_T23 x51 x53).f1) x1).bind fun t217 => ((set_Set_With.f k x212000 x212001 t217).bind fun bt218 => (kakugyolaw03_StepTurns.l1 k x1 x51 x52 (wrap64 (x53 + 1)) x208000 x208001 x209000 x209001 bt218.1 bt218.2))) else (none)) else (none)) else (if (!(x212000 == x208000) || (!(x212001 == x208001))) = true then (some false) else ((set_Set_Count.f x208000 x208001).bind fun t220 => ((set_Set_Count.f x209000 x209001).bind fun t221 => (if t220 = t221 then ((set_Set_Count.f x208000 x208001).bind fun t222 => (some (decide (t222 ≤ 8)))) else (some false)))))
end
def kakugyolaw03_StepTurns.f (k : Nat) (a0 : Int) (a1 : Int) : Option (Bool) := (kakugyolaw03_steps.f k).bind fun t202 => (if t202 = true then (if a0 < 1 then (kakugyolaw03_StepTurns.j0 k a0 a1 true) else (if a0 > 15 then (kakugyolaw03_StepTurns.j0 k a0 a1 true) else (if a1 < 0 then (kakugyolaw03_StepTurns.j0 k a0 a1 true) else (kakugyolaw03_StepTurns.j0 k a0 a1 (decide (a1 > 80)))))) else (some false))
theorem kakugyolaw03_StepTurns.mono_l : ∀ k, (∀ y0 y1 y2, LeO (kakugyolaw03_StepTurns.j0 k y0 y1 y2) (kakugyolaw03_StepTurns.j0 (k + 1) y0 y1 y2)) ∧ (∀ y0 y1 y2 y3 y4 y5 y6, LeO (kakugyolaw03_StepTurns.l0 k y0 y1 y2 y3 y4 y5 y6) (kakugyolaw03_StepTurns.l0 (k + 1) y0 y1 y2 y3 y4 y5 y6)) ∧ (∀ y0 y1 y2 y3 y4 y5 y6 y7 y8 y9, LeO (kakugyolaw03_StepTurns.l1 k y0 y1 y2 y3 y4 y5 y6 y7 y8 y9) (kakugyolaw03_StepTurns.l1 (k + 1) y0 y1 y2 y3 y4 y5 y6 y7 y8 y9))
  | 0 => ⟨fun _ _ _ r h => by simp [kakugyolaw03_StepTurns.j0] at h, fun _ _ _ _ _ _ _ r h => by simp [kakugyolaw03_StepTurns.l0] at h, fun _ _ _ _ _ _ _ _ _ _ r h => by simp [kakugyolaw03_StepTurns.l1] at h⟩
  | k + 1 => by
    obtain ⟨ih0, ih1, ih2⟩ := kakugyolaw03_StepTurns.mono_l k
    refine ⟨?_, ?_, ?_⟩
    · intro y0 y1 y2
      unfold kakugyolaw03_StepTurns.j0
      repeat' first
      | (with_reducible exact ih0 _ _ _)
      | (with_reducible exact ih1 _ _ _ _ _ _ _)
      | (with_reducible exact ih2 _ _ _ _ _ _ _ _ _ _)
      | (with_reducible exact kakugyolaw03_steps.mono _)
      | (with_reducible exact set_Set_Has.mono _ _ _ _)
      | (with_reducible exact set_Set_With.mono _ _ _ _)
      | (with_reducible exact step_Dirs.mono _ _)
      | (with_reducible exact step_Of.mono _ _ _)
      | (with_reducible exact LeO.refl _)
      | (with_reducible exact LeO.none _)
      | (with_reducible refine LeO.ite ?_ ?_)
      | (with_reducible refine LeO.bind ?_ (fun _ => ?_))
      | exact ih0 _ _ _
      | exact ih1 _ _ _ _ _ _ _
      | exact ih2 _ _ _ _ _ _ _ _ _ _
      | exact kakugyolaw03_steps.mono _
      | exact set_Set_Has.mono _ _ _ _
      | exact set_Set_With.mono _ _ _ _
      | exact step_Dirs.mono _ _
      | exact step_Of.mono _ _ _
      | exact LeO.none _
      | refine LeO.ite ?_ ?_
      | refine LeO.bind ?_ (fun _ => ?_)
    · intro y0 y1 y2 y3 y4 y5 y6
      unfold kakugyolaw03_StepTurns.l0
      repeat' first
      | (with_reducible exact ih0 _ _ _)
      | (with_reducible exact ih1 _ _ _ _ _ _ _)
      | (with_reducible exact ih2 _ _ _ _ _ _ _ _ _ _)
      | (with_reducible exact kakugyolaw03_steps.mono _)
      | (with_reducible exact set_Set_Has.mono _ _ _ _)
      | (with_reducible exact set_Set_With.mono _ _ _ _)
      | (with_reducible exact step_Dirs.mono _ _)
      | (with_reducible exact step_Of.mono _ _ _)
      | (with_reducible exact LeO.refl _)
      | (with_reducible exact LeO.none _)
      | (with_reducible refine LeO.ite ?_ ?_)
      | (with_reducible refine LeO.bind ?_ (fun _ => ?_))
      | exact ih0 _ _ _
      | exact ih1 _ _ _ _ _ _ _
      | exact ih2 _ _ _ _ _ _ _ _ _ _
      | exact kakugyolaw03_steps.mono _
      | exact set_Set_Has.mono _ _ _ _
      | exact set_Set_With.mono _ _ _ _
      | exact step_Dirs.mono _ _
      | exact step_Of.mono _ _ _
      | exact LeO.none _
      | refine LeO.ite ?_ ?_
      | refine LeO.bind ?_ (fun _ => ?_)
    · intro y0 y1 y2 y3 y4 y5 y6 y7 y8 y9
      unfold kakugyolaw03_StepTurns.l1
      repeat' first
      | (with_reducible exact ih0 _ _ _)
      | (with_reducible exact ih1 _ _ _ _ _ _ _)
      | (with_reducible exact ih2 _ _ _ _ _ _ _ _ _ _)
      | (with_reducible exact kakugyolaw03_steps.mono _)
      | (with_reducible exact set_Set_Has.mono _ _ _ _)
      | (with_reducible exact set_Set_With.mono _ _ _ _)
      | (with_reducible exact step_Dirs.mono _ _)
      | (with_reducible exact step_Of.mono _ _ _)
      | (with_reducible exact LeO.refl _)
      | (with_reducible exact LeO.none _)
      | (with_reducible refine LeO.ite ?_ ?_)
      | (with_reducible refine LeO.bind ?_ (fun _ => ?_))
      | exact ih0 _ _ _
      | exact ih1 _ _ _ _ _ _ _
      | exact ih2 _ _ _ _ _ _ _ _ _ _
      | exact kakugyolaw03_steps.mono _
      | exact set_Set_Has.mono _ _ _ _
      | exact set_Set_With.mono _ _ _ _
      | exact step_Dirs.mono _ _
      | exact step_Of.mono _ _ _
      | exact LeO.none _
      | refine LeO.ite ?_ ?_
      | refine LeO.bind ?_ (fun _ => ?_)
theorem kakugyolaw03_StepTurns.mono : ∀ a0 a1 k, LeO (kakugyolaw03_StepTurns.f k a0 a1) (kakugyolaw03_StepTurns.f (k + 1) a0 a1) := by
  intro a0 a1 k
  obtain ⟨ih0, ih1, ih2⟩ := kakugyolaw03_StepTurns.mono_l k
  unfold kakugyolaw03_StepTurns.f
  repeat' first
      | (with_reducible exact ih0 _ _ _)
      | (with_reducible exact ih1 _ _ _ _ _ _ _)
      | (with_reducible exact ih2 _ _ _ _ _ _ _ _ _ _)
      | (with_reducible exact kakugyolaw03_steps.mono _)
      | (with_reducible exact set_Set_Has.mono _ _ _ _)
      | (with_reducible exact set_Set_With.mono _ _ _ _)
      | (with_reducible exact step_Dirs.mono _ _)
      | (with_reducible exact step_Of.mono _ _ _)
      | (with_reducible exact LeO.refl _)
      | (with_reducible exact LeO.none _)
      | (with_reducible refine LeO.ite ?_ ?_)
      | (with_reducible refine LeO.bind ?_ (fun _ => ?_))
      | exact ih0 _ _ _
      | exact ih1 _ _ _ _ _ _ _
      | exact ih2 _ _ _ _ _ _ _ _ _ _
      | exact kakugyolaw03_steps.mono _
      | exact set_Set_Has.mono _ _ _ _
      | exact set_Set_With.mono _ _ _ _
      | exact step_Dirs.mono _ _
      | exact step_Of.mono _ _ _
      | exact LeO.none _
      | refine LeO.ite ?_ ?_
      | refine LeO.bind ?_ (fun _ => ?_)
def kakugyolaw03_StepTurns.T9 : Bool × List (List Nat × List Nat) := (true, [([], []), ([], []), ([0, 1], [0, 1]), ([], []), ([], []), ([4], [4]), ([3, 5, 2], [3, 5]), ([2, 6], [2, 6])])
def kakugyolaw03_StepTurns.B9 : List Nat := [0, 0, 3, 0, 0, 16, 63, 127]
theorem kakugyolaw03_StepTurns.tab9 : rtab .any (opsOf Try.f4 9) = kakugyolaw03_StepTurns.T9 := by kernel_rfl
theorem kakugyolaw03_StepTurns.bits9 : waitsOk kakugyolaw03_StepTurns.T9.2 kakugyolaw03_StepTurns.B9 = true := by kernel_rfl
def kakugyolaw03_StepTurns.T19 : Bool × List (List Nat × List Nat) := (true, [([], []), ([0], [0]), ([], []), ([2, 1], [2]), ([1, 3], [1, 3]), ([4, 3], [4]), ([5], [5]), ([6, 5, 5], [5, 6]), ([7, 5], [5, 7]), ([5, 8], [5, 8]), ([9, 7, 0, 1, 2, 3, 4, 5, 6, 7, 8, 9], [9])])
def kakugyolaw03_StepTurns.B19 : List Nat := [0, 1, 0, 7, 15, 31, 63, 127, 255, 511, 1023]
theorem kakugyolaw03_StepTurns.tab19 : rtab .any (opsOf Try.f4 19) = kakugyolaw03_StepTurns.T19 := by kernel_rfl
theorem kakugyolaw03_StepTurns.bits19 : waitsOk kakugyolaw03_StepTurns.T19.2 kakugyolaw03_StepTurns.B19 = true := by kernel_rfl
set_option maxHeartbeats 8000000 in
set_option maxRecDepth 100000 in
theorem kakugyolaw03_StepTurns.calls (k : Nat) (a0 : Int) (a1 : Int) (r : Bool) (w : World) (h : kakugyolaw03_StepTurns.f k a0 a1 = some r) :
    Calls Try.prog 4 #[.int .i64 a0, .int .i64 a1] w fun e w' => e = .returned (.bool r) ∧ Below w.heap.size w w' := by
  have hu30 := Try.underlying30
  have hu23 := Try.underlying23
  have HB := Aside0.mk (Below.refl w.heap.size w)
  have H : ((kakugyolaw03_steps.f k).bind fun t202 => (if t202 = true then (if a0 < 1 then (kakugyolaw03_StepTurns.j0 k a0 a1 true) else (if a0 > 15 then (kakugyolaw03_StepTurns.j0 k a0 a1 true) else (if a1 < 0 then (kakugyolaw03_StepTurns.j0 k a0 a1 true) else (kakugyolaw03_StepTurns.j0 k a0 a1 (decide (a1 > 80)))))) else (some false))) = some r := h
  clear h
  replace H := Option.bind_eq_some_iff.mp H
  obtain ⟨t202, A30, H⟩ := H
  replace H : (if t202 = true then (if a0 < 1 then (kakugyolaw03_StepTurns.j0 k a0 a1 true) else (if a0 > 15 then (kakugyolaw03_StepTurns.j0 k a0 a1 true) else (if a1 < 0 then (kakugyolaw03_StepTurns.j0 k a0 a1 true) else (kakugyolaw03_StepTurns.j0 k a0 a1 (decide (a1 > 80)))))) else (some false)) = some r := H
  have A3 := Aside0.mk A30
  clear A30
  by_cases c4 : t202 = true
  · subst c4
    have H1 : (if a0 < 1 then (kakugyolaw03_StepTurns.j0 k a0 a1 true) else (if a0 > 15 then (kakugyolaw03_StepTurns.j0 k a0 a1 true) else (if a1 < 0 then (kakugyolaw03_StepTurns.j0 k a0 a1 true) else (kakugyolaw03_StepTurns.j0 k a0 a1 (decide (a1 > 80)))))) = some r := by rw [if_pos rfl] at H; exact H
    clear H
    have H := H1
    clear H1
    have HC5 := Aside0.mk H
    clear H
    go_enter Try.func4, Try.ntmps4
    go_upto_region 3 with (first | ((with_reducible refine gate_callee (f := 9) rfl ?_); refine goesL_ (some 11) rfl rfl Try.func9 (by kernel_rfl) rfl #[] rfl (by (try simp only [List.map_toArray, List.map_cons, List.map_nil]); first | done | rfl | (simp only [List.length_drop, List.length_take]; rfl)) ?_; (with_reducible refine (kakugyolaw03_steps.calls k  true _ A3.out).mono ?_); rintro e w6 ⟨rfl, hb⟩; refine ⟨_, rfl, ?_⟩; have n0_ := Aside0.mk (below_step (by repeat (first | (with_reducible first | exact HB.out | apply below_alloc | apply pw_below_drewN | apply below_drew1) | exact HB.out)) hb); clear HB; have HB := n0_; clear n0_; (try clear hb); (try clear hb2); (try clear hk); (try clear hi)))
    (try simp only [Act.put, List.setIfInBounds_toArray, List.set_cons_zero, List.set_cons_succ])
    go_cut [26] (fun v26 wc => ∃ (kq : Nat) (x26_4 : Bool), v26 = .bool x26_4 ∧ Aside0 (kakugyolaw03_StepTurns.j0 kq a0 a1 x26_4 = some r) ∧ Aside0 (kq ≤ k) ∧ Aside0 (Below w.heap.size w wc))
    case first =>
      have H := HC5.out
      clear HC5
      by_cases c7 : a0 < 1
      · rw [if_pos c7] at H
        have c7b0 : decide (a0 < 1) = true := decide_eq_true c7
        clear c7
        (first | rw [c7b0] | (simp only [i64_w, i32_w]; rw [c7b0]) | skip)
        have H' := Aside0.mk H
        clear H
        go_wp2
        go_meet
        case rel => exact ⟨_, (true), (by first | rfl | (simp; done) | (simp [*]; done)), H', ⟨by first | omega | exact Nat.le_refl _⟩, ⟨by repeat (first | (with_reducible first | exact HB.out | apply below_alloc | apply pw_below_drewN | apply below_drew1) | exact HB.out)⟩⟩
      · rw [if_neg c7] at H
        have c7b0 : decide (a0 < 1) = false := decide_eq_false c7
        clear c7
        (first | rw [c7b0] | (simp only [i64_w, i32_w]; rw [c7b0]) | skip)
        by_cases c8 : a0 > 15
        · rw [if_pos c8] at H
          have c8b0 : decide (15 < a0) = true := decide_eq_true c8
          clear c8
          have H' := Aside0.mk H
          clear H
          go_wp2
          go_meet
          case rel => exact ⟨_, (true), (by first | rfl | (simp; done) | (simp [*]; done)), H', ⟨by first | omega | exact Nat.le_refl _⟩, ⟨by repeat (first | (with_reducible first | exact HB.out | apply below_alloc | apply pw_below_drewN | apply below_drew1) | exact HB.out)⟩⟩
        · rw [if_neg c8] at H
          have c8b0 : decide (15 < a0) = false := decide_eq_false c8
          clear c8
          by_cases c9 : a1 < 0
          · rw [if_pos c9] at H
            have c9b0 : decide (a1 < 0) = true := decide_eq_true c9
            clear c9
            have H' := Aside0.mk H
            clear H
            go_wp2
            go_meet
            case rel => exact ⟨_, (true), (by first | rfl | (simp; done) | (simp [*]; done)), H', ⟨by first | omega | exact Nat.le_refl _⟩, ⟨by repeat (first | (with_reducible first | exact HB.out | apply below_alloc | apply pw_below_drewN | apply below_drew1) | exact HB.out)⟩⟩
          · rw [if_neg c9] at H
            have c9b0 : decide (a1 < 0) = false := decide_eq_false c9
            clear c9
            have H' := Aside0.mk H
            clear H
            go_wp2
            go_meet
            case rel => exact ⟨_, (decide (a1 > 80)), (by first | rfl | (simp; done) | (simp [*]; done)), H', ⟨by first | omega | exact Nat.le_refl _⟩, ⟨by repeat (first | (with_reducible first | exact HB.out | apply below_alloc | apply pw_below_drewN | apply below_drew1) | exact HB.out)⟩⟩
    case rest =>
      clear HC5
      try clear p2
      try clear c4
      try clear c7
      try clear c7b0
      try clear c8
      try clear c8b0
      try clear c9
      try clear c9b0
      obtain ⟨kq, x26_4, rfl, HA, HJ4, HB⟩ := hcut
      cases kq with
      | zero => exact absurd HA.out (by simp [kakugyolaw03_StepTurns.j0])
      | succ kj4 =>
        have H := HA.out
        clear HA
        simp only [kakugyolaw03_StepTurns.j0] at H
        by_cases c10 : x26_4 = true
        · subst c10
          have H1 : (some true) = some r := by rw [if_pos rfl] at H; exact H
          clear H
          have H := H1
          clear H1
          obtain rfl := Option.some.inj H
          go_wp2
          go_ret
          exact ⟨by first | rfl | (simp [errW_none, errW_some] <;> rfl) | (simp [*, errW_none, errW_some] <;> rfl) | (simp [*, errW_none, errW_some]; generalize ByteArray.toList _ = q_; cases q_ <;> rfl), by repeat (first | (with_reducible first | exact HB.out | apply below_alloc | apply pw_below_drewN | apply below_drew1) | exact HB.out)⟩
        · replace c10 := Bool.eq_false_iff.mpr c10
          subst c10
          have H1 : ((step_Of.f kj4 (IntKind.i8.wrap (a0)) a1).bind fun bt203 => ((step_Of.f kj4 (IntKind.i8.wrap (wrap64 (a0 + 16))) (wrap64 (80 - a1))).bind fun bt205 => (kakugyolaw03_StepTurns.l0 kj4 a0 a1 0 bt203.1 bt203.2 bt205.1 bt205.2))) = some r := by rw [if_neg (show ¬ (false = true) by decide)] at H; exact H
          clear H
          have H := H1
          clear H1
          replace H := Option.bind_eq_some_iff.mp H
          obtain ⟨⟨t203, t204⟩, A110, H⟩ := H
          replace H : ((step_Of.f kj4 (IntKind.i8.wrap (wrap64 (a0 + 16))) (wrap64 (80 - a1))).bind fun bt205 => (kakugyolaw03_StepTurns.l0 kj4 a0 a1 0 t203 t204 bt205.1 bt205.2)) = some r := H
          have A11 := Aside0.mk A110
          clear A110
          replace H := Option.bind_eq_some_iff.mp H
          obtain ⟨⟨t205, t206⟩, A120, H⟩ := H
          replace H : (kakugyolaw03_StepTurns.l0 kj4 a0 a1 0 t203 t204 t205 t206) = some r := H
          have A12 := Aside0.mk A120
          clear A120
          have H' := Aside0.mk H
          clear H
          go_wp2_with (first | ((with_reducible refine gate_callee (f := 14) rfl ?_); refine goesL_ (some 30) rfl rfl Try.func14 (by kernel_rfl) rfl #[.int .i8 (IntKind.i8.wrap (a0)), .int .i64 a1] rfl (by (try simp only [List.map_toArray, List.map_cons, List.map_nil]); first | done | rfl | (simp only [List.length_drop, List.length_take]; rfl)) ?_; (with_reducible refine (step_Of.calls kj4 (IntKind.i8.wrap (a0)) a1 t203 t204 _ A11.out).mono ?_); rintro e w13 ⟨rfl, hb⟩; refine ⟨_, rfl, ?_⟩; have n0_ := Aside0.mk (below_step (by repeat (first | (with_reducible first | exact HB.out | apply below_alloc | apply pw_below_drewN | apply below_drew1) | exact HB.out)) hb); clear HB; have HB := n0_; clear n0_; (try clear hb); (try clear hb2); (try clear hk); (try clear hi)) | ((with_reducible refine gate_callee (f := 14) rfl ?_); refine goesL_ (some 36) rfl rfl Try.func14 (by kernel_rfl) rfl #[.int .i8 (IntKind.i8.wrap (wrap64 (a0 + 16))), .int .i64 (wrap64 (80 - a1))] rfl (by (try simp only [List.map_toArray, List.map_cons, List.map_nil]); first | done | rfl | (simp only [List.length_drop, List.length_take]; rfl)) ?_; (with_reducible refine (step_Of.calls kj4 (IntKind.i8.wrap (wrap64 (a0 + 16))) (wrap64 (80 - a1)) t205 t206 _ A12.out).mono ?_); rintro e w14 ⟨rfl, hb⟩; refine ⟨_, rfl, ?_⟩; have n0_ := Aside0.mk (below_step (by repeat (first | (with_reducible first | exact HB.out | apply below_alloc | apply pw_below_drewN | apply below_drew1) | exact HB.out)) hb); clear HB; have HB := n0_; clear n0_; (try clear hb); (try clear hb2); (try clear hk); (try clear hi)) | ((with_reducible refine gate_dst (N := 5) rfl ?_); refine box_event ?hg (N := 5) ?hd (cs := #[.int .u64 0, .int .u64 0]) (t := 30) ?hr ?_; (case hd => rfl); (case hg => rfl); (case hr => first | (go_simp; done) | (go_simp; rfl)); intro gb207 hg w15 hbox hb; have n0_ := Aside0.mk (below_step (by repeat (first | (with_reducible first | exact HB.out | apply below_alloc | apply pw_below_drewN | apply below_drew1) | exact HB.out)) hb); have n1_ := Aside0.mk (hbox); have n2_ := Aside0.mk ((by rw [hg]; exact (below_size (by repeat (first | (with_reducible first | exact HB.out | apply below_alloc | apply pw_below_drewN | apply below_drew1) | exact HB.out))) : w.heap.size ≤ gb207)); have n3_ := Aside0.mk ((by rw [hg]; exact (below_size (by repeat (first | (with_reducible first | exact HB.out | apply below_alloc | apply pw_below_drewN | apply below_drew1) | exact HB.out))) : w.heap.size ≤ gb207)); clear HB; have HB := n0_; have BK207 := n1_; have GW207 := n2_; have GE207 := n3_; clear n0_ n1_ n2_ n3_; clear hb hbox hg) | ((with_reducible refine gate_dst (N := 6) rfl ?_); refine box_event ?hg (N := 6) ?hd (cs := #[.int .u64 0, .int .u64 0]) (t := 30) ?hr ?_; (case hd => rfl); (case hg => rfl); (case hr => first | (go_simp; done) | (go_simp; rfl)); intro gb208 hg w16 hbox hb; have n0_ := Aside0.mk (blk_below (g := gb207) (o := .cells #[.int .u64 0, .int .u64 0] 30 (0, 0)) (by (with_reducible repeat (first | refine blk_drewN ?_ _ | refine blk_drew ?_ | refine blk_alloc ?_ _)); exact BK207.out) hb); have n1_ := Aside0.mk (below_step (by repeat (first | (with_reducible first | exact HB.out | apply below_alloc | apply pw_below_drewN | apply below_drew1 | refine below_set ?_ GE207.out) | exact HB.out)) hb); have n2_ := Aside0.mk (hbox); have n3_ := Aside0.mk ((by rw [hg]; exact (below_size (by repeat (first | (with_reducible first | exact HB.out | apply below_alloc | apply pw_below_drewN | apply below_drew1 | refine below_set ?_ GE207.out) | exact HB.out))) : w.heap.size ≤ gb208)); have n4_ := Aside0.mk ((by rw [hg]; exact (below_size (by repeat (first | (with_reducible first | exact HB.out | apply below_alloc | apply pw_below_drewN | apply below_drew1 | refine below_set ?_ GE207.out) | exact HB.out))) : w.heap.size ≤ gb208)); have n5_ := Aside0.mk ((by rw [hg]; exact Nat.ne_of_lt (blk_lt (g := gb207) (o := .cells #[.int .u64 0, .int .u64 0] 30 (0, 0)) (by (with_reducible repeat (first | refine blk_drewN ?_ _ | refine blk_drew ?_ | refine blk_alloc ?_ _)); exact BK207.out)) : gb207 ≠ gb208)); have n6_ := Aside0.mk ((by rw [hg]; exact Nat.ne_of_gt (blk_lt (g := gb207) (o := .cells #[.int .u64 0, .int .u64 0] 30 (0, 0)) (by (with_reducible repeat (first | refine blk_drewN ?_ _ | refine blk_drew ?_ | refine blk_alloc ?_ _)); exact BK207.out)) : gb208 ≠ gb207)); clear BK207; clear HB; have BK207 := n0_; have HB := n1_; have BK208 := n2_; have GW208 := n3_; have GE208 := n4_; have NB207_208 := n5_; have NB208_207 := n6_; clear n0_ n1_ n2_ n3_ n4_ n5_ n6_; clear hb hbox hg; have hnb17 := NB207_208.out; have hnc17 := NB208_207.out; have hcz18_0 : w16.cell? ⟨gb207, 0, none⟩ = some (.int .u64 0) := (blk_cell BK207.out 0).trans rfl; have hcz18_1 : w16.cell? ⟨gb207, 1, none⟩ = some (.int .u64 0) := (blk_cell BK207.out 1).trans rfl; have hfz18_0 := blk_frozen BK207.out 0; have hfz18_1 := blk_frozen BK207.out 1; have hcz19_0 : w16.cell? ⟨gb208, 0, none⟩ = some (.int .u64 0) := (blk_cell BK208.out 0).trans rfl; have hcz19_1 : w16.cell? ⟨gb208, 1, none⟩ = some (.int .u64 0) := (blk_cell BK208.out 1).trans rfl; have hfz19_0 := blk_frozen BK208.out 0; have hfz19_1 := blk_frozen BK208.out 1))
          go_loopg [7] kj4 (fun kq v7 w' => ∃ (x7_2 : Int), v7 = .int .i64 x7_2 ∧ Aside0 (kakugyolaw03_StepTurns.l0 kq a0 a1 x7_2 t203 t204 t205 t206 = some r) ∧ Aside0 (kq ≤ kj4) ∧ Aside0 (w'.heap[gb207]? = some (.cells #[.int .u64 t203, .int .u64 t204] 30 (0, 0))) ∧ Aside0 (w'.heap[gb208]? = some (.cells #[.int .u64 t205, .int .u64 t206] 30 (0, 0))) ∧ Aside0 (Below w.heap.size w w'))
          case atStart => exact ⟨(0), (by first | rfl | (simp; done) | (simp [*]; done)), H', ⟨Nat.le_refl _⟩, ⟨by (with_reducible repeat (first | refine blk_drewN ?_ _ | refine blk_drew ?_ | refine blk_alloc ?_ _)); refine blk_far ?_ NB207_208.out _; (with_reducible repeat (first | refine blk_drewN ?_ _ | refine blk_drew ?_ | refine blk_alloc ?_ _)); refine blk_far ?_ NB207_208.out _; (with_reducible repeat (first | refine blk_drewN ?_ _ | refine blk_drew ?_ | refine blk_alloc ?_ _)); refine blk_put (cs := #[.int .u64 t203, .int .u64 0]) ?_ 1 _ rfl; (with_reducible repeat (first | refine blk_drewN ?_ _ | refine blk_drew ?_ | refine blk_alloc ?_ _)); refine blk_put (cs := #[.int .u64 0, .int .u64 0]) ?_ 0 _ rfl; (with_reducible repeat (first | refine blk_drewN ?_ _ | refine blk_drew ?_ | refine blk_alloc ?_ _)); exact BK207.out⟩, ⟨by (with_reducible repeat (first | refine blk_drewN ?_ _ | refine blk_drew ?_ | refine blk_alloc ?_ _)); refine blk_put (cs := #[.int .u64 t205, .int .u64 0]) ?_ 1 _ rfl; (with_reducible repeat (first | refine blk_drewN ?_ _ | refine blk_drew ?_ | refine blk_alloc ?_ _)); refine blk_put (cs := #[.int .u64 0, .int .u64 0]) ?_ 0 _ rfl; (with_reducible repeat (first | refine blk_drewN ?_ _ | refine blk_drew ?_ | refine blk_alloc ?_ _)); refine blk_far ?_ NB208_207.out _; (with_reducible repeat (first | refine blk_drewN ?_ _ | refine blk_drew ?_ | refine blk_alloc ?_ _)); refine blk_far ?_ NB208_207.out _; (with_reducible repeat (first | refine blk_drewN ?_ _ | refine blk_drew ?_ | refine blk_alloc ?_ _)); exact BK208.out⟩, ⟨by repeat (first | (with_reducible first | exact HB.out | apply below_alloc | apply pw_below_drewN | apply below_drew1 | refine below_set ?_ GE207.out | refine below_set ?_ GE208.out) | exact HB.out)⟩⟩
          case round =>
            clear H'
            try clear c1
            try clear p2
            try clear c4
            try clear p6
            try clear c7
            try clear c7b0
            try clear c8
            try clear c8b0
            try clear c9
            try clear c9b0
            try clear c10
            try clear c14
            try clear c17
            try clear hcz18_0
            try clear hcz18_1
            try clear hcz19_0
            try clear hcz19_1
            try clear hfz18_0
            try clear hfz18_1
            try clear hfz19_0
            try clear hfz19_1
            try clear p2
            obtain ⟨x7_2, rfl, HA, HK2, BK207, BK208, HB⟩ := hrel
            cases gk with
            | zero => exact absurd HA.out (by simp [kakugyolaw03_StepTurns.l0])
            | succ k2 =>
              have H := HA.out
              clear HA
              simp only [kakugyolaw03_StepTurns.l0] at H
              by_cases c20 : x7_2 < 81
              · rw [if_pos c20] at H
                have c20b0 : decide (x7_2 < 81) = true := decide_eq_true c20
                clear c20
                replace H := Option.bind_eq_some_iff.mp H
                obtain ⟨t209, A210, H⟩ := H
                replace H : ((set_Set_Has.f k2 t205 t206 (wrap64 (80 - x7_2))).bind fun t210 => (if (t209 != t210) = true then (some false) else (kakugyolaw03_StepTurns.l0 k2 a0 a1 (wrap64 (x7_2 + 1)) t203 t204 t205 t206))) = some r := H
                have A21 := Aside0.mk A210
                clear A210
                replace H := Option.bind_eq_some_iff.mp H
                obtain ⟨t210, A220, H⟩ := H
                replace H : (if (t209 != t210) = true then (some false) else (kakugyolaw03_StepTurns.l0 k2 a0 a1 (wrap64 (x7_2 + 1)) t203 t204 t205 t206)) = some r := H
                have A22 := Aside0.mk A220
                clear A220
                by_cases c23 : (t209 != t210) = true
                · rw [if_pos c23] at H
                  have c23b0 : (t209 != t210) = true := c23
                  (try (have c23b1 : decide (t209 = t210) = false := by simpa using c23))
                  (try (have c23b2 : (t209 == t210) = false := by simpa using c23))
                  (try (have c23b3 : ¬ (t209 = t210) := by simpa using c23))
                  clear c23
                  obtain rfl := Option.some.inj H
                  try go_wp2
                  have n0_ := Aside0.mk (blk_drew BK207.out)
                  have n1_ := Aside0.mk (blk_drew BK208.out)
                  have n2_ := Aside0.mk (below_drew1 HB.out)
                  clear BK207
                  clear BK208
                  clear HB
                  have BK207 := n0_
                  have BK208 := n1_
                  have HB := n2_
                  clear n0_ n1_ n2_
                  refine start_ (n := 8) (S := fun w' => w'.cell? ⟨gb207, 0, none⟩ = some (.int .u64 t203) ∧ w'.cell? ⟨gb207, 1, none⟩ = some (.int .u64 t204) ∧ w'.cell? ⟨gb208, 0, none⟩ = some (.int .u64 t205) ∧ w'.cell? ⟨gb208, 1, none⟩ = some (.int .u64 t206)) (ds := []) #[false, false, false, false, false, false, false, false] (by kernel_rfl) rfl rfl ⟨(blk_cell BK207.out 0).trans rfl, (blk_cell BK207.out 1).trans rfl, (blk_cell BK208.out 0).trans rfl, (blk_cell BK208.out 1).trans rfl⟩ (fun hHeld => ?_); refine with_tabW kakugyolaw03_StepTurns.tab9 kakugyolaw03_StepTurns.bits9 (fun HT_ HW_ => ?_)
                  generalize wr.drew = w24 at BK207 BK208 HB hHeld ⊢
                  refine pure_ (i := 1) (N := some 42) (v := ?_) (a' := ?_) #[false, true, false, false, false, false, false, false] rfl rfl (any_of HT_.out (by kernel_rfl)) (fun _ _ _ h => h) (Or.inl ⟨by rfl, ?_⟩) ?_ ?_
                  rotate_left
                  · intro w'
                    go_simp
                    with_reducible rfl
                  rotate_left
                  · simp only [Act.put, List.setIfInBounds_toArray, List.set_cons_zero, List.set_cons_succ, i64_w, i32_w]
                    rfl
                  refine pure_ (i := 4) (N := some 45) (v := ?_) (a' := ?_) #[false, true, false, false, true, false, false, false] rfl rfl (any_of HT_.out (by kernel_rfl)) (fun _ _ _ h => h) (Or.inl ⟨by rfl, ?_⟩) ?_ ?_
                  rotate_left
                  · intro w'
                    go_simp
                    with_reducible rfl
                  rotate_left
                  · simp only [Act.put, List.setIfInBounds_toArray, List.set_cons_zero, List.set_cons_succ, i64_w, i32_w]
                    rfl
                  refine pure_ (i := 5) (N := some 46) (v := ?_) (a' := ?_) #[false, true, false, false, true, true, false, false] rfl rfl (any_of HT_.out (by kernel_rfl)) (fun _ _ _ h => h) (Or.inl ⟨by rfl, ?_⟩) ?_ ?_
                  rotate_left
                  · intro w'
                    go_simp
                    with_reducible rfl
                  rotate_left
                  · simp only [Act.put, List.setIfInBounds_toArray, List.set_cons_zero, List.set_cons_succ, i64_w, i32_w]
                    rfl
                  refine take_ (i := 0) (N := some 41) (v := ?_) (a' := ?_) #[true, true, false, false, true, true, false, false] rfl rfl (take_ofW HT_.out HW_.out (by kernel_rfl)) (fun _ _ _ h => h) (Or.inl ⟨by rfl, ?_⟩) hHeld ?_ ?_
                  rotate_left
                  · rintro w' ⟨s0, s1, s2, s3⟩
                    go_simp
                    with_reducible rfl
                  rotate_left
                  · simp only [Act.put, List.setIfInBounds_toArray, List.set_cons_zero, List.set_cons_succ, i64_w, i32_w]
                    rfl
                  refine take_ (i := 3) (N := some 44) (v := ?_) (a' := ?_) #[true, true, false, true, true, true, false, false] rfl rfl (take_ofW HT_.out HW_.out (by kernel_rfl)) (fun _ _ _ h => h) (Or.inl ⟨by rfl, ?_⟩) hHeld ?_ ?_
                  rotate_left
                  · rintro w' ⟨s0, s1, s2, s3⟩
                    go_simp
                    with_reducible rfl
                  rotate_left
                  · simp only [Act.put, List.setIfInBounds_toArray, List.set_cons_zero, List.set_cons_succ, i64_w, i32_w]
                    rfl
                  refine one_ (i := 2) (N := some 43) #[true, true, true, true, true, true, false, false] rfl rfl (one_of HT_.out (by kernel_rfl)) (by decide) (fun K hK => ?_)
                  refine goes_ Try.func15 (by kernel_rfl) rfl #[.agg #[.int .u64 t203, .int .u64 t204], .int .i64 x7_2] (by rfl) rfl rfl (by (try simp only [List.map_toArray, List.map_cons, List.map_nil]); first | done | rfl | (simp only [List.length_drop, List.length_take]; rfl)) ?_
                  with_reducible refine (set_Set_Has.calls k2 t203 t204 x7_2 t209 _ A21.out).mono ?_
                  rintro e w25 ⟨rfl, hb⟩
                  refine ⟨_, rfl, ?_⟩
                  have n0_ := Aside0.mk (blk_below (g := gb207) (o := .cells #[.int .u64 t203, .int .u64 t204] 30 (0, 0)) (by (with_reducible repeat (first | refine blk_drewN ?_ _ | refine blk_drew ?_ | refine blk_alloc ?_ _)); exact BK207.out) hb)
                  have n1_ := Aside0.mk (blk_below (g := gb208) (o := .cells #[.int .u64 t205, .int .u64 t206] 30 (0, 0)) (by (with_reducible repeat (first | refine blk_drewN ?_ _ | refine blk_drew ?_ | refine blk_alloc ?_ _)); exact BK208.out) hb)
                  have n2_ := Aside0.mk (below_step (by repeat (first | (with_reducible first | exact HB.out | apply below_alloc | apply pw_below_drewN | apply below_drew1 | refine below_set ?_ GE207.out | refine below_set ?_ GE208.out) | exact HB.out)) hb)
                  clear BK207
                  clear BK208
                  clear HB
                  have BK207 := n0_
                  have BK208 := n1_
                  have HB := n2_
                  clear n0_ n1_ n2_
                  (try clear hb)
                  (try clear hb2)
                  (try clear hk)
                  (try clear hi)
                  refine hK.out _ _ ⟨(blk_cell BK207.out 0).trans rfl, (blk_cell BK207.out 1).trans rfl, (blk_cell BK208.out 0).trans rfl, (blk_cell BK208.out 1).trans rfl⟩ (fun hHeld => ?_)
                  clear hK K
                  refine norm_ (a' := ?_) ?_ ?_
                  rotate_left
                  · show Act.put _ (some 43) _ = _
                    simp only [Act.put, List.setIfInBounds_toArray, List.set_cons_zero, List.set_cons_succ, i64_w, i32_w]
                    rfl
                  refine one_ (i := 6) (N := some 47) #[true, true, true, true, true, true, true, false] rfl rfl (one_of HT_.out (by kernel_rfl)) (by decide) (fun K hK => ?_)
                  refine goes_ Try.func15 (by kernel_rfl) rfl #[.agg #[.int .u64 t205, .int .u64 t206], .int .i64 (wrap64 (80 - x7_2))] (by rfl) rfl rfl (by (try simp only [List.map_toArray, List.map_cons, List.map_nil]); first | done | rfl | (simp only [List.length_drop, List.length_take]; rfl)) ?_
                  with_reducible refine (set_Set_Has.calls k2 t205 t206 (wrap64 (80 - x7_2)) t210 _ A22.out).mono ?_
                  rintro e w26 ⟨rfl, hb⟩
                  refine ⟨_, rfl, ?_⟩
                  have n0_ := Aside0.mk (blk_below (g := gb207) (o := .cells #[.int .u64 t203, .int .u64 t204] 30 (0, 0)) (by (with_reducible repeat (first | refine blk_drewN ?_ _ | refine blk_drew ?_ | refine blk_alloc ?_ _)); exact BK207.out) hb)
                  have n1_ := Aside0.mk (blk_below (g := gb208) (o := .cells #[.int .u64 t205, .int .u64 t206] 30 (0, 0)) (by (with_reducible repeat (first | refine blk_drewN ?_ _ | refine blk_drew ?_ | refine blk_alloc ?_ _)); exact BK208.out) hb)
                  have n2_ := Aside0.mk (below_step (by repeat (first | (with_reducible first | exact HB.out | apply below_alloc | apply pw_below_drewN | apply below_drew1 | refine below_set ?_ GE207.out | refine below_set ?_ GE208.out) | exact HB.out)) hb)
                  clear BK207
                  clear BK208
                  clear HB
                  have BK207 := n0_
                  have BK208 := n1_
                  have HB := n2_
                  clear n0_ n1_ n2_
                  (try clear hb)
                  (try clear hb2)
                  (try clear hk)
                  (try clear hi)
                  refine hK.out _ _ ⟨(blk_cell BK207.out 0).trans rfl, (blk_cell BK207.out 1).trans rfl, (blk_cell BK208.out 0).trans rfl, (blk_cell BK208.out 1).trans rfl⟩ (fun hHeld => ?_)
                  clear hK K
                  refine norm_ (a' := ?_) ?_ ?_
                  rotate_left
                  · show Act.put _ (some 47) _ = _
                    simp only [Act.put, List.setIfInBounds_toArray, List.set_cons_zero, List.set_cons_succ, i64_w, i32_w]
                    rfl
                  refine pure_ (i := 7) (N := some 48) (v := ?_) (a' := ?_) #[true, true, true, true, true, true, true, true] rfl rfl (any_of HT_.out (by kernel_rfl)) (fun _ _ _ h => h) (Or.inl ⟨by rfl, ?_⟩) ?_ ?_
                  rotate_left
                  · intro w'
                    go_simp
                    with_reducible rfl
                  rotate_left
                  · simp only [Act.put, List.setIfInBounds_toArray, List.set_cons_zero, List.set_cons_succ, i64_w, i32_w]
                    rfl
                  refine done_ (done_of HT_.out (by kernel_rfl)) ?_
                  try go_wp2
                  go_ret
                  exact ⟨by first | rfl | (simp [errW_none, errW_some] <;> rfl) | (simp [*, errW_none, errW_some] <;> rfl) | (simp [*, errW_none, errW_some]; generalize ByteArray.toList _ = q_; cases q_ <;> rfl), by repeat (first | (with_reducible first | exact HB.out | apply below_alloc | apply pw_below_drewN | apply below_drew1 | refine below_set ?_ GE207.out | refine below_set ?_ GE208.out) | exact HB.out)⟩
                · rw [if_neg c23] at H
                  have c23b0 : (t209 != t210) = false := by simpa using c23
                  (try (have c23b1 : decide (t209 = t210) = true := by simpa using c23))
                  (try (have c23b2 : (t209 == t210) = true := by simpa using c23))
                  clear c23
                  have H' := Aside0.mk H
                  clear H
                  try go_wp2
                  have n0_ := Aside0.mk (blk_drew BK207.out)
                  have n1_ := Aside0.mk (blk_drew BK208.out)
                  have n2_ := Aside0.mk (below_drew1 HB.out)
                  clear BK207
                  clear BK208
                  clear HB
                  have BK207 := n0_
                  have BK208 := n1_
                  have HB := n2_
                  clear n0_ n1_ n2_
                  refine start_ (n := 8) (S := fun w' => w'.cell? ⟨gb207, 0, none⟩ = some (.int .u64 t203) ∧ w'.cell? ⟨gb207, 1, none⟩ = some (.int .u64 t204) ∧ w'.cell? ⟨gb208, 0, none⟩ = some (.int .u64 t205) ∧ w'.cell? ⟨gb208, 1, none⟩ = some (.int .u64 t206)) (ds := []) #[false, false, false, false, false, false, false, false] (by kernel_rfl) rfl rfl ⟨(blk_cell BK207.out 0).trans rfl, (blk_cell BK207.out 1).trans rfl, (blk_cell BK208.out 0).trans rfl, (blk_cell BK208.out 1).trans rfl⟩ (fun hHeld => ?_); refine with_tabW kakugyolaw03_StepTurns.tab9 kakugyolaw03_StepTurns.bits9 (fun HT_ HW_ => ?_)
                  generalize wr.drew = w27 at BK207 BK208 HB hHeld ⊢
                  refine pure_ (i := 1) (N := some 42) (v := ?_) (a' := ?_) #[false, true, false, false, false, false, false, false] rfl rfl (any_of HT_.out (by kernel_rfl)) (fun _ _ _ h => h) (Or.inl ⟨by rfl, ?_⟩) ?_ ?_
                  rotate_left
                  · intro w'
                    go_simp
                    with_reducible rfl
                  rotate_left
                  · simp only [Act.put, List.setIfInBounds_toArray, List.set_cons_zero, List.set_cons_succ, i64_w, i32_w]
                    rfl
                  refine pure_ (i := 4) (N := some 45) (v := ?_) (a' := ?_) #[false, true, false, false, true, false, false, false] rfl rfl (any_of HT_.out (by kernel_rfl)) (fun _ _ _ h => h) (Or.inl ⟨by rfl, ?_⟩) ?_ ?_
                  rotate_left
                  · intro w'
                    go_simp
                    with_reducible rfl
                  rotate_left
                  · simp only [Act.put, List.setIfInBounds_toArray, List.set_cons_zero, List.set_cons_succ, i64_w, i32_w]
                    rfl
                  refine pure_ (i := 5) (N := some 46) (v := ?_) (a' := ?_) #[false, true, false, false, true, true, false, false] rfl rfl (any_of HT_.out (by kernel_rfl)) (fun _ _ _ h => h) (Or.inl ⟨by rfl, ?_⟩) ?_ ?_
                  rotate_left
                  · intro w'
                    go_simp
                    with_reducible rfl
                  rotate_left
                  · simp only [Act.put, List.setIfInBounds_toArray, List.set_cons_zero, List.set_cons_succ, i64_w, i32_w]
                    rfl
                  refine take_ (i := 0) (N := some 41) (v := ?_) (a' := ?_) #[true, true, false, false, true, true, false, false] rfl rfl (take_ofW HT_.out HW_.out (by kernel_rfl)) (fun _ _ _ h => h) (Or.inl ⟨by rfl, ?_⟩) hHeld ?_ ?_
                  rotate_left
                  · rintro w' ⟨s0, s1, s2, s3⟩
                    go_simp
                    with_reducible rfl
                  rotate_left
                  · simp only [Act.put, List.setIfInBounds_toArray, List.set_cons_zero, List.set_cons_succ, i64_w, i32_w]
                    rfl
                  refine take_ (i := 3) (N := some 44) (v := ?_) (a' := ?_) #[true, true, false, true, true, true, false, false] rfl rfl (take_ofW HT_.out HW_.out (by kernel_rfl)) (fun _ _ _ h => h) (Or.inl ⟨by rfl, ?_⟩) hHeld ?_ ?_
                  rotate_left
                  · rintro w' ⟨s0, s1, s2, s3⟩
                    go_simp
                    with_reducible rfl
                  rotate_left
                  · simp only [Act.put, List.setIfInBounds_toArray, List.set_cons_zero, List.set_cons_succ, i64_w, i32_w]
                    rfl
                  refine one_ (i := 2) (N := some 43) #[true, true, true, true, true, true, false, false] rfl rfl (one_of HT_.out (by kernel_rfl)) (by decide) (fun K hK => ?_)
                  refine goes_ Try.func15 (by kernel_rfl) rfl #[.agg #[.int .u64 t203, .int .u64 t204], .int .i64 x7_2] (by rfl) rfl rfl (by (try simp only [List.map_toArray, List.map_cons, List.map_nil]); first | done | rfl | (simp only [List.length_drop, List.length_take]; rfl)) ?_
                  with_reducible refine (set_Set_Has.calls k2 t203 t204 x7_2 t209 _ A21.out).mono ?_
                  rintro e w28 ⟨rfl, hb⟩
                  refine ⟨_, rfl, ?_⟩
                  have n0_ := Aside0.mk (blk_below (g := gb207) (o := .cells #[.int .u64 t203, .int .u64 t204] 30 (0, 0)) (by (with_reducible repeat (first | refine blk_drewN ?_ _ | refine blk_drew ?_ | refine blk_alloc ?_ _)); exact BK207.out) hb)
                  have n1_ := Aside0.mk (blk_below (g := gb208) (o := .cells #[.int .u64 t205, .int .u64 t206] 30 (0, 0)) (by (with_reducible repeat (first | refine blk_drewN ?_ _ | refine blk_drew ?_ | refine blk_alloc ?_ _)); exact BK208.out) hb)
                  have n2_ := Aside0.mk (below_step (by repeat (first | (with_reducible first | exact HB.out | apply below_alloc | apply pw_below_drewN | apply below_drew1 | refine below_set ?_ GE207.out | refine below_set ?_ GE208.out) | exact HB.out)) hb)
                  clear BK207
                  clear BK208
                  clear HB
                  have BK207 := n0_
                  have BK208 := n1_
                  have HB := n2_
                  clear n0_ n1_ n2_
                  (try clear hb)
                  (try clear hb2)
                  (try clear hk)
                  (try clear hi)
                  refine hK.out _ _ ⟨(blk_cell BK207.out 0).trans rfl, (blk_cell BK207.out 1).trans rfl, (blk_cell BK208.out 0).trans rfl, (blk_cell BK208.out 1).trans rfl⟩ (fun hHeld => ?_)
                  clear hK K
                  refine norm_ (a' := ?_) ?_ ?_
                  rotate_left
                  · show Act.put _ (some 43) _ = _
                    simp only [Act.put, List.setIfInBounds_toArray, List.set_cons_zero, List.set_cons_succ, i64_w, i32_w]
                    rfl
                  refine one_ (i := 6) (N := some 47) #[true, true, true, true, true, true, true, false] rfl rfl (one_of HT_.out (by kernel_rfl)) (by decide) (fun K hK => ?_)
                  refine goes_ Try.func15 (by kernel_rfl) rfl #[.agg #[.int .u64 t205, .int .u64 t206], .int .i64 (wrap64 (80 - x7_2))] (by rfl) rfl rfl (by (try simp only [List.map_toArray, List.map_cons, List.map_nil]); first | done | rfl | (simp only [List.length_drop, List.length_take]; rfl)) ?_
                  with_reducible refine (set_Set_Has.calls k2 t205 t206 (wrap64 (80 - x7_2)) t210 _ A22.out).mono ?_
                  rintro e w29 ⟨rfl, hb⟩
                  refine ⟨_, rfl, ?_⟩
                  have n0_ := Aside0.mk (blk_below (g := gb207) (o := .cells #[.int .u64 t203, .int .u64 t204] 30 (0, 0)) (by (with_reducible repeat (first | refine blk_drewN ?_ _ | refine blk_drew ?_ | refine blk_alloc ?_ _)); exact BK207.out) hb)
                  have n1_ := Aside0.mk (blk_below (g := gb208) (o := .cells #[.int .u64 t205, .int .u64 t206] 30 (0, 0)) (by (with_reducible repeat (first | refine blk_drewN ?_ _ | refine blk_drew ?_ | refine blk_alloc ?_ _)); exact BK208.out) hb)
                  have n2_ := Aside0.mk (below_step (by repeat (first | (with_reducible first | exact HB.out | apply below_alloc | apply pw_below_drewN | apply below_drew1 | refine below_set ?_ GE207.out | refine below_set ?_ GE208.out) | exact HB.out)) hb)
                  clear BK207
                  clear BK208
                  clear HB
                  have BK207 := n0_
                  have BK208 := n1_
                  have HB := n2_
                  clear n0_ n1_ n2_
                  (try clear hb)
                  (try clear hb2)
                  (try clear hk)
                  (try clear hi)
                  refine hK.out _ _ ⟨(blk_cell BK207.out 0).trans rfl, (blk_cell BK207.out 1).trans rfl, (blk_cell BK208.out 0).trans rfl, (blk_cell BK208.out 1).trans rfl⟩ (fun hHeld => ?_)
                  clear hK K
                  refine norm_ (a' := ?_) ?_ ?_
                  rotate_left
                  · show Act.put _ (some 47) _ = _
                    simp only [Act.put, List.setIfInBounds_toArray, List.set_cons_zero, List.set_cons_succ, i64_w, i32_w]
                    rfl
                  refine pure_ (i := 7) (N := some 48) (v := ?_) (a' := ?_) #[true, true, true, true, true, true, true, true] rfl rfl (any_of HT_.out (by kernel_rfl)) (fun _ _ _ h => h) (Or.inl ⟨by rfl, ?_⟩) ?_ ?_
                  rotate_left
                  · intro w'
                    go_simp
                    with_reducible rfl
                  rotate_left
                  · simp only [Act.put, List.setIfInBounds_toArray, List.set_cons_zero, List.set_cons_succ, i64_w, i32_w]
                    rfl
                  refine done_ (done_of HT_.out (by kernel_rfl)) ?_
                  try go_wp2
                  go_roundg k2
                  case measure => have := HJ4.out; have := HK2.out; omega
                  case rel => exact ⟨(wrap64 (x7_2 + 1)), (by first | rfl | (simp; done) | (simp [*]; done)), H', ⟨by have := HJ4.out; have := HK2.out; omega⟩, ⟨by (with_reducible repeat (first | refine blk_drewN ?_ _ | refine blk_drew ?_ | refine blk_alloc ?_ _)); exact BK207.out⟩, ⟨by (with_reducible repeat (first | refine blk_drewN ?_ _ | refine blk_drew ?_ | refine blk_alloc ?_ _)); exact BK208.out⟩, ⟨by repeat (first | (with_reducible first | exact HB.out | apply below_alloc | apply pw_below_drewN | apply below_drew1 | refine below_set ?_ GE207.out | refine below_set ?_ GE208.out) | exact HB.out)⟩⟩
              · rw [if_neg c20] at H
                have c20b0 : decide (x7_2 < 81) = false := decide_eq_false c20
                clear c20
                replace H := Option.bind_eq_some_iff.mp H
                obtain ⟨t212, A300, H⟩ := H
                replace H : (kakugyolaw03_StepTurns.l1 k2 a1 t212 (t212.length : Int) 0 t203 t204 t205 t206 0 0) = some r := H
                have A30 := Aside0.mk A300
                clear A300
                have H' := Aside0.mk H
                clear H
                go_wp2_with (first | ((with_reducible refine gate_dst (N := 8) rfl ?_); refine box_event ?hg (N := 8) ?hd (cs := #[.int .u64 0, .int .u64 0]) (t := 30) ?hr ?_; (case hd => rfl); (case hg => rfl); (case hr => first | (go_simp; done) | (go_simp; rfl)); intro gb211 hg w31 hbox hb; have n0_ := Aside0.mk (blk_below (g := gb207) (o := .cells #[.int .u64 t203, .int .u64 t204] 30 (0, 0)) (by (with_reducible repeat (first | refine blk_drewN ?_ _ | refine blk_drew ?_ | refine blk_alloc ?_ _)); exact BK207.out) hb); have n1_ := Aside0.mk (blk_below (g := gb208) (o := .cells #[.int .u64 t205, .int .u64 t206] 30 (0, 0)) (by (with_reducible repeat (first | refine blk_drewN ?_ _ | refine blk_drew ?_ | refine blk_alloc ?_ _)); exact BK208.out) hb); have n2_ := Aside0.mk (below_step (by repeat (first | (with_reducible first | exact HB.out | apply below_alloc | apply pw_below_drewN | apply below_drew1 | refine below_set ?_ GE207.out | refine below_set ?_ GE208.out) | exact HB.out)) hb); have n3_ := Aside0.mk (hbox); have n4_ := Aside0.mk ((by rw [hg]; exact (below_size (by repeat (first | (with_reducible first | exact HB.out | apply below_alloc | apply pw_below_drewN | apply below_drew1 | refine below_set ?_ GE207.out | refine below_set ?_ GE208.out) | exact HB.out))) : w.heap.size ≤ gb211)); have n5_ := Aside0.mk ((by rw [hg]; exact (below_size (by repeat (first | (with_reducible first | exact HB.out | apply below_alloc | apply pw_below_drewN | apply below_drew1 | refine below_set ?_ GE207.out | refine below_set ?_ GE208.out) | exact HB.out))) : w.heap.size ≤ gb211)); have n6_ := Aside0.mk ((by rw [hg]; exact Nat.ne_of_lt (blk_lt (g := gb207) (o := .cells #[.int .u64 t203, .int .u64 t204] 30 (0, 0)) (by (with_reducible repeat (first | refine blk_drewN ?_ _ | refine blk_drew ?_ | refine blk_alloc ?_ _)); exact BK207.out)) : gb207 ≠ gb211)); have n7_ := Aside0.mk ((by rw [hg]; exact Nat.ne_of_gt (blk_lt (g := gb207) (o := .cells #[.int .u64 t203, .int .u64 t204] 30 (0, 0)) (by (with_reducible repeat (first | refine blk_drewN ?_ _ | refine blk_drew ?_ | refine blk_alloc ?_ _)); exact BK207.out)) : gb211 ≠ gb207)); have n8_ := Aside0.mk ((by rw [hg]; exact Nat.ne_of_lt (blk_lt (g := gb208) (o := .cells #[.int .u64 t205, .int .u64 t206] 30 (0, 0)) (by (with_reducible repeat (first | refine blk_drewN ?_ _ | refine blk_drew ?_ | refine blk_alloc ?_ _)); exact BK208.out)) : gb208 ≠ gb211)); have n9_ := Aside0.mk ((by rw [hg]; exact Nat.ne_of_gt (blk_lt (g := gb208) (o := .cells #[.int .u64 t205, .int .u64 t206] 30 (0, 0)) (by (with_reducible repeat (first | refine blk_drewN ?_ _ | refine blk_drew ?_ | refine blk_alloc ?_ _)); exact BK208.out)) : gb211 ≠ gb208)); clear BK207; clear BK208; clear HB; have BK207 := n0_; have BK208 := n1_; have HB := n2_; have BK211 := n3_; have GW211 := n4_; have GE211 := n5_; have NB207_211 := n6_; have NB211_207 := n7_; have NB208_211 := n8_; have NB211_208 := n9_; clear n0_ n1_ n2_ n3_ n4_ n5_ n6_ n7_ n8_ n9_; clear hb hbox hg; have hnb32 := NB211_207.out; have hnc32 := NB207_211.out; have hnb33 := NB211_208.out; have hnc33 := NB208_211.out; have hcz34_0 : w31.cell? ⟨gb211, 0, none⟩ = some (.int .u64 0) := (blk_cell BK211.out 0).trans rfl; have hcz34_1 : w31.cell? ⟨gb211, 1, none⟩ = some (.int .u64 0) := (blk_cell BK211.out 1).trans rfl; have hfz34_0 := blk_frozen BK211.out 0; have hfz34_1 := blk_frozen BK211.out 1) | ((with_reducible refine gate_callee (f := 16) rfl ?_); refine goesL_ (some 51) rfl rfl Try.func16 (by kernel_rfl) rfl #[.int .i64 a0] rfl (by (try simp only [List.map_toArray, List.map_cons, List.map_nil]); first | done | rfl | (simp only [List.length_drop, List.length_take]; rfl)) ?_; (with_reducible refine (step_Dirs.calls k2 a0 t212 _ A30.out).mono ?_); rintro e w35 ⟨v213, rfl, ho0, hb⟩; refine ⟨_, rfl, ?_⟩; have n0_ := Aside0.mk (Kd.R_lower ho0 (below_size (by repeat (first | (with_reducible first | exact HB.out | apply below_alloc | apply pw_below_drewN | apply below_drew1 | refine below_set ?_ GE207.out | refine below_set ?_ GE208.out | refine below_set ?_ GE211.out) | exact HB.out)))); have n1_ := Aside0.mk (blk_below (g := gb207) (o := .cells #[.int .u64 t203, .int .u64 t204] 30 (0, 0)) (by (with_reducible repeat (first | refine blk_drewN ?_ _ | refine blk_drew ?_ | refine blk_alloc ?_ _)); refine blk_far ?_ NB207_211.out _; (with_reducible repeat (first | refine blk_drewN ?_ _ | refine blk_drew ?_ | refine blk_alloc ?_ _)); refine blk_far ?_ NB207_211.out _; (with_reducible repeat (first | refine blk_drewN ?_ _ | refine blk_drew ?_ | refine blk_alloc ?_ _)); exact BK207.out) hb); have n2_ := Aside0.mk (blk_below (g := gb208) (o := .cells #[.int .u64 t205, .int .u64 t206] 30 (0, 0)) (by (with_reducible repeat (first | refine blk_drewN ?_ _ | refine blk_drew ?_ | refine blk_alloc ?_ _)); refine blk_far ?_ NB208_211.out _; (with_reducible repeat (first | refine blk_drewN ?_ _ | refine blk_drew ?_ | refine blk_alloc ?_ _)); refine blk_far ?_ NB208_211.out _; (with_reducible repeat (first | refine blk_drewN ?_ _ | refine blk_drew ?_ | refine blk_alloc ?_ _)); exact BK208.out) hb); have n3_ := Aside0.mk (blk_below (g := gb211) (o := .cells #[.int .u64 0, .int .u64 0] 30 (0, 0)) (by (with_reducible repeat (first | refine blk_drewN ?_ _ | refine blk_drew ?_ | refine blk_alloc ?_ _)); refine blk_put (cs := #[.int .u64 0, .int .u64 0]) ?_ 1 _ rfl; (with_reducible repeat (first | refine blk_drewN ?_ _ | refine blk_drew ?_ | refine blk_alloc ?_ _)); refine blk_put (cs := #[.int .u64 0, .int .u64 0]) ?_ 0 _ rfl; (with_reducible repeat (first | refine blk_drewN ?_ _ | refine blk_drew ?_ | refine blk_alloc ?_ _)); exact BK211.out) hb); have n4_ := Aside0.mk (below_step (by repeat (first | (with_reducible first | exact HB.out | apply below_alloc | apply pw_below_drewN | apply below_drew1 | refine below_set ?_ GE207.out | refine below_set ?_ GE208.out | refine below_set ?_ GE211.out) | exact HB.out)) hb); clear BK207; clear BK208; clear BK211; clear HB; have HO214 := n0_; have BK207 := n1_; have BK208 := n2_; have BK211 := n3_; have HB := n4_; clear n0_ n1_ n2_ n3_ n4_; (try clear hb); (try clear hb2); (try clear hk); (try clear hi); (try clear ho0); obtain ⟨Ao36, co36, eo36⟩ := Kd.R_slice HO214.out; subst eo36))
                go_loopg [53] k2 (fun kq v53 w' => ∃ (x53_3 : Int) (x212000_3 : Int) (x212001_3 : Int), v53 = .int .i64 x53_3 ∧ Aside0 (kakugyolaw03_StepTurns.l1 kq a1 t212 (t212.length : Int) x53_3 t203 t204 t205 t206 x212000_3 x212001_3 = some r) ∧ Aside0 (kq ≤ k2) ∧ Aside0 (Kd.R k23 23 w' w.heap.size (fun _ => True) (.slice Ao36 t212.length co36) t212) ∧ Aside0 (w'.heap[gb207]? = some (.cells #[.int .u64 t203, .int .u64 t204] 30 (0, 0))) ∧ Aside0 (w'.heap[gb208]? = some (.cells #[.int .u64 t205, .int .u64 t206] 30 (0, 0))) ∧ Aside0 (w'.heap[gb211]? = some (.cells #[.int .u64 x212000_3, .int .u64 x212001_3] 30 (0, 0))) ∧ Aside0 (Below w.heap.size w w'))
                case atStart => exact ⟨(0), (0), (0), (by first | rfl | (simp; done) | (simp [*]; done)), H', ⟨Nat.le_refl _⟩, ⟨by (with_reducible repeat (first | apply Kd.R_alloc | apply Kd.R_drewN | apply Kd.R_drew)); exact HO214.out⟩, ⟨by (with_reducible repeat (first | refine blk_drewN ?_ _ | refine blk_drew ?_ | refine blk_alloc ?_ _)); exact BK207.out⟩, ⟨by (with_reducible repeat (first | refine blk_drewN ?_ _ | refine blk_drew ?_ | refine blk_alloc ?_ _)); exact BK208.out⟩, ⟨by (with_reducible repeat (first | refine blk_drewN ?_ _ | refine blk_drew ?_ | refine blk_alloc ?_ _)); exact BK211.out⟩, ⟨by repeat (first | (with_reducible first | exact HB.out | apply below_alloc | apply pw_below_drewN | apply below_drew1 | refine below_set ?_ GE207.out | refine below_set ?_ GE208.out | refine below_set ?_ GE211.out) | exact HB.out)⟩⟩
                case round =>
                  clear H'
                  try clear c1
                  try clear c2
                  try clear p2
                  try clear c3
                  try clear c4
                  try clear p6
                  try clear c7
                  try clear c7b0
                  try clear c8
                  try clear c8b0
                  try clear c9
                  try clear c9b0
                  try clear c10
                  try clear c14
                  try clear c15
                  try clear c16
                  try clear c17
                  try clear c20
                  try clear c20b0
                  try clear c23
                  try clear c23b0
                  try clear c23b1
                  try clear c23b2
                  try clear c32
                  try clear c33
                  try clear hcz18_0
                  try clear hcz18_1
                  try clear hcz19_0
                  try clear hcz19_1
                  try clear hcz34_0
                  try clear hcz34_1
                  try clear hfz18_0
                  try clear hfz18_1
                  try clear hfz19_0
                  try clear hfz19_1
                  try clear hfz34_0
                  try clear hfz34_1
                  try clear p2
                  try clear p6
                  obtain ⟨x53_3, x212000_3, x212001_3, rfl, HA, HK3, HO_51, BK207, BK208, BK211, HB⟩ := hrel
                  cases gk with
                  | zero => exact absurd HA.out (by simp [kakugyolaw03_StepTurns.l1])
                  | succ k3 =>
                    have H := HA.out
                    clear HA
                    simp only [kakugyolaw03_StepTurns.l1] at H
                    by_cases c37 : x53_3 < (t212.length : Int)
                    · rw [if_pos c37] at H
                      have c37b0 : decide (x53_3 < (t212.length : Int)) = true := decide_eq_true c37
                      clear c37
                      by_cases c38 : 0 ≤ x53_3
                      · rw [if_pos c38] at H
                        have c38b0 : decide (0 ≤ x53_3) = true := decide_eq_true c38
                        clear c38
                        by_cases c39 : x53_3 < (t212.length : Int)
                        · rw [if_pos c39] at H
                          have c39b0 : decide (x53_3 < (t212.length : Int)) = true := decide_eq_true c39
                          clear c39
                          replace H := Option.bind_eq_some_iff.mp H
                          obtain ⟨t217, A400, H⟩ := H
                          replace H : ((set_Set_With.f k3 x212000_3 x212001_3 t217).bind fun bt218 => (kakugyolaw03_StepTurns.l1 k3 a1 t212 (t212.length : Int) (wrap64 (x53_3 + 1)) t203 t204 t205 t206 bt218.1 bt218.2)) = some r := H
                          have A40 := Aside0.mk A400
                          clear A400
                          replace H := Option.bind_eq_some_iff.mp H
                          obtain ⟨⟨t218, t219⟩, A410, H⟩ := H
                          replace H : (kakugyolaw03_StepTurns.l1 k3 a1 t212 (t212.length : Int) (wrap64 (x53_3 + 1)) t203 t204 t205 t206 t218 t219) = some r := H
                          have A41 := Aside0.mk A410
                          clear A410
                          have H' := Aside0.mk H
                          clear H
                          have p215 : 0 ≤ (x53_3 : Int) := of_decide_eq_true (by first | (with_reducible assumption) | assumption)
                          have q215 : x53_3 < (t212.length : Int) := of_decide_eq_true (by first | (with_reducible assumption) | assumption)
                          obtain ⟨ad215, e215, hx215_0, hx215_1⟩ := at_T23 (Kd.R_reads' HO_51.out).2.2 x53_3 p215 q215
                          cases e215
                          replace p215 := eq_true p215
                          replace q215 := eq_true q215
                          try go_wp2_with (first | ((with_reducible refine gate_dst (N := 10) rfl ?_); refine box_event ?hg (N := 10) ?hd (cs := #[.int .i64 0, .int .i64 0]) (t := 23) ?hr ?_; (case hd => rfl); (case hg => rfl); (case hr => first | (go_simp; done) | (go_simp; rfl)); intro gb216 hg w42 hbox hb; have n0_ := Aside0.mk (Kd.R_below (Kd.R_elderB (by (with_reducible repeat (first | apply Kd.R_alloc | apply Kd.R_drewN | apply Kd.R_drew)); exact HO_51.out) gb216 (Nat.le_of_eq hg.symm)) hb); have n1_ := Aside0.mk (blk_below (g := gb207) (o := .cells #[.int .u64 t203, .int .u64 t204] 30 (0, 0)) (by (with_reducible repeat (first | refine blk_drewN ?_ _ | refine blk_drew ?_ | refine blk_alloc ?_ _)); exact BK207.out) hb); have n2_ := Aside0.mk (blk_below (g := gb208) (o := .cells #[.int .u64 t205, .int .u64 t206] 30 (0, 0)) (by (with_reducible repeat (first | refine blk_drewN ?_ _ | refine blk_drew ?_ | refine blk_alloc ?_ _)); exact BK208.out) hb); have n3_ := Aside0.mk (blk_below (g := gb211) (o := .cells #[.int .u64 x212000_3, .int .u64 x212001_3] 30 (0, 0)) (by (with_reducible repeat (first | refine blk_drewN ?_ _ | refine blk_drew ?_ | refine blk_alloc ?_ _)); exact BK211.out) hb); have n4_ := Aside0.mk (below_step (by repeat (first | (with_reducible first | exact HB.out | apply below_alloc | apply pw_below_drewN | apply below_drew1 | refine below_set ?_ GE207.out | refine below_set ?_ GE208.out | refine below_set ?_ GE211.out) | exact HB.out)) hb); have n5_ := Aside0.mk (hbox); have n6_ := Aside0.mk ((by rw [hg]; exact (below_size (by repeat (first | (with_reducible first | exact HB.out | apply below_alloc | apply pw_below_drewN | apply below_drew1 | refine below_set ?_ GE207.out | refine below_set ?_ GE208.out | refine below_set ?_ GE211.out) | exact HB.out))) : w.heap.size ≤ gb216)); have n7_ := Aside0.mk ((by rw [hg]; exact (below_size (by repeat (first | (with_reducible first | exact HB.out | apply below_alloc | apply pw_below_drewN | apply below_drew1 | refine below_set ?_ GE207.out | refine below_set ?_ GE208.out | refine below_set ?_ GE211.out) | exact HB.out))) : w.heap.size ≤ gb216)); have n8_ := Aside0.mk ((by rw [hg]; exact Nat.ne_of_lt (blk_lt (g := gb207) (o := .cells #[.int .u64 t203, .int .u64 t204] 30 (0, 0)) (by (with_reducible repeat (first | refine blk_drewN ?_ _ | refine blk_drew ?_ | refine blk_alloc ?_ _)); exact BK207.out)) : gb207 ≠ gb216)); have n9_ := Aside0.mk ((by rw [hg]; exact Nat.ne_of_gt (blk_lt (g := gb207) (o := .cells #[.int .u64 t203, .int .u64 t204] 30 (0, 0)) (by (with_reducible repeat (first | refine blk_drewN ?_ _ | refine blk_drew ?_ | refine blk_alloc ?_ _)); exact BK207.out)) : gb216 ≠ gb207)); have n10_ := Aside0.mk ((by rw [hg]; exact Nat.ne_of_lt (blk_lt (g := gb208) (o := .cells #[.int .u64 t205, .int .u64 t206] 30 (0, 0)) (by (with_reducible repeat (first | refine blk_drewN ?_ _ | refine blk_drew ?_ | refine blk_alloc ?_ _)); exact BK208.out)) : gb208 ≠ gb216)); have n11_ := Aside0.mk ((by rw [hg]; exact Nat.ne_of_gt (blk_lt (g := gb208) (o := .cells #[.int .u64 t205, .int .u64 t206] 30 (0, 0)) (by (with_reducible repeat (first | refine blk_drewN ?_ _ | refine blk_drew ?_ | refine blk_alloc ?_ _)); exact BK208.out)) : gb216 ≠ gb208)); have n12_ := Aside0.mk ((by rw [hg]; exact Nat.ne_of_lt (blk_lt (g := gb211) (o := .cells #[.int .u64 x212000_3, .int .u64 x212001_3] 30 (0, 0)) (by (with_reducible repeat (first | refine blk_drewN ?_ _ | refine blk_drew ?_ | refine blk_alloc ?_ _)); exact BK211.out)) : gb211 ≠ gb216)); have n13_ := Aside0.mk ((by rw [hg]; exact Nat.ne_of_gt (blk_lt (g := gb211) (o := .cells #[.int .u64 x212000_3, .int .u64 x212001_3] 30 (0, 0)) (by (with_reducible repeat (first | refine blk_drewN ?_ _ | refine blk_drew ?_ | refine blk_alloc ?_ _)); exact BK211.out)) : gb216 ≠ gb211)); clear HO_51; clear BK207; clear BK208; clear BK211; clear HB; have HO_51 := n0_; have BK207 := n1_; have BK208 := n2_; have BK211 := n3_; have HB := n4_; have BK216 := n5_; have GW216 := n6_; have GE216 := n7_; have NB207_216 := n8_; have NB216_207 := n9_; have NB208_216 := n10_; have NB216_208 := n11_; have NB211_216 := n12_; have NB216_211 := n13_; clear n0_ n1_ n2_ n3_ n4_ n5_ n6_ n7_ n8_ n9_ n10_ n11_ n12_ n13_; clear hb hbox hg; have hnb43 := NB216_207.out; have hnc43 := NB207_216.out; have hnb44 := NB216_208.out; have hnc44 := NB208_216.out; have hnb45 := NB216_211.out; have hnc45 := NB211_216.out; have hcz46_0 : w42.cell? ⟨gb216, 0, none⟩ = some (.int .i64 0) := (blk_cell BK216.out 0).trans rfl; have hcz46_1 : w42.cell? ⟨gb216, 1, none⟩ = some (.int .i64 0) := (blk_cell BK216.out 1).trans rfl; have hfz46_0 := blk_frozen BK216.out 0; have hfz46_1 := blk_frozen BK216.out 1))
                          have n0_ : Aside0 (Kd.R k23 23 ((w42.setCell ⟨gb216, 0, none⟩ (.int .i64 ((rd_T23 t212 x53_3).f0))).setCell ⟨gb216, 1, none⟩ (.int .i64 ((rd_T23 t212 x53_3).f1))) w.heap.size (fun k_ => k_ ≠ gb216) (.slice (some ad215) t212.length co36) t212) := ⟨by (with_reducible repeat (first | apply Kd.R_alloc | apply Kd.R_drewN | apply Kd.R_drew)); exact Kd.R_mono (Kd.R_far (p := ⟨gb216, 1, none⟩) (Kd.R_far (p := ⟨gb216, 0, none⟩) (Kd.R_mono HO_51.out (fun k_ hk => (⟨hk, hk.2⟩ : _ ∧ k_ ≠ gb216))) (fun _ hk => hk.2) (.int .i64 ((rd_T23 t212 x53_3).f0))) (fun _ hk => hk.2) (.int .i64 ((rd_T23 t212 x53_3).f1))) (fun _ hk => hk.1.2)⟩
                          have n1_ : Aside0 (((w42.setCell ⟨gb216, 0, none⟩ (.int .i64 ((rd_T23 t212 x53_3).f0))).setCell ⟨gb216, 1, none⟩ (.int .i64 ((rd_T23 t212 x53_3).f1))).heap[gb207]? = some (.cells #[.int .u64 t203, .int .u64 t204] 30 (0, 0))) := ⟨by (with_reducible repeat (first | refine blk_drewN ?_ _ | refine blk_drew ?_ | refine blk_alloc ?_ _)); refine blk_far ?_ NB207_216.out _; (with_reducible repeat (first | refine blk_drewN ?_ _ | refine blk_drew ?_ | refine blk_alloc ?_ _)); refine blk_far ?_ NB207_216.out _; (with_reducible repeat (first | refine blk_drewN ?_ _ | refine blk_drew ?_ | refine blk_alloc ?_ _)); exact BK207.out⟩
                          have n2_ : Aside0 (((w42.setCell ⟨gb216, 0, none⟩ (.int .i64 ((rd_T23 t212 x53_3).f0))).setCell ⟨gb216, 1, none⟩ (.int .i64 ((rd_T23 t212 x53_3).f1))).heap[gb208]? = some (.cells #[.int .u64 t205, .int .u64 t206] 30 (0, 0))) := ⟨by (with_reducible repeat (first | refine blk_drewN ?_ _ | refine blk_drew ?_ | refine blk_alloc ?_ _)); refine blk_far ?_ NB208_216.out _; (with_reducible repeat (first | refine blk_drewN ?_ _ | refine blk_drew ?_ | refine blk_alloc ?_ _)); refine blk_far ?_ NB208_216.out _; (with_reducible repeat (first | refine blk_drewN ?_ _ | refine blk_drew ?_ | refine blk_alloc ?_ _)); exact BK208.out⟩
                          have n3_ : Aside0 (((w42.setCell ⟨gb216, 0, none⟩ (.int .i64 ((rd_T23 t212 x53_3).f0))).setCell ⟨gb216, 1, none⟩ (.int .i64 ((rd_T23 t212 x53_3).f1))).heap[gb211]? = some (.cells #[.int .u64 x212000_3, .int .u64 x212001_3] 30 (0, 0))) := ⟨by (with_reducible repeat (first | refine blk_drewN ?_ _ | refine blk_drew ?_ | refine blk_alloc ?_ _)); refine blk_far ?_ NB211_216.out _; (with_reducible repeat (first | refine blk_drewN ?_ _ | refine blk_drew ?_ | refine blk_alloc ?_ _)); refine blk_far ?_ NB211_216.out _; (with_reducible repeat (first | refine blk_drewN ?_ _ | refine blk_drew ?_ | refine blk_alloc ?_ _)); exact BK211.out⟩
                          have n4_ : Aside0 (((w42.setCell ⟨gb216, 0, none⟩ (.int .i64 ((rd_T23 t212 x53_3).f0))).setCell ⟨gb216, 1, none⟩ (.int .i64 ((rd_T23 t212 x53_3).f1))).heap[gb216]? = some (.cells #[.int .i64 ((rd_T23 t212 x53_3).f0), .int .i64 ((rd_T23 t212 x53_3).f1)] 23 (0, 0))) := ⟨by (with_reducible repeat (first | refine blk_drewN ?_ _ | refine blk_drew ?_ | refine blk_alloc ?_ _)); refine blk_put (cs := #[.int .i64 ((rd_T23 t212 x53_3).f0), .int .i64 0]) ?_ 1 _ rfl; (with_reducible repeat (first | refine blk_drewN ?_ _ | refine blk_drew ?_ | refine blk_alloc ?_ _)); refine blk_put (cs := #[.int .i64 0, .int .i64 0]) ?_ 0 _ rfl; (with_reducible repeat (first | refine blk_drewN ?_ _ | refine blk_drew ?_ | refine blk_alloc ?_ _)); exact BK216.out⟩
                          have n5_ : Aside0 (Below w.heap.size w ((w42.setCell ⟨gb216, 0, none⟩ (.int .i64 ((rd_T23 t212 x53_3).f0))).setCell ⟨gb216, 1, none⟩ (.int .i64 ((rd_T23 t212 x53_3).f1)))) := ⟨by repeat (first | (with_reducible first | exact HB.out | apply below_alloc | apply pw_below_drewN | apply below_drew1 | refine below_set ?_ GE207.out | refine below_set ?_ GE208.out | refine below_set ?_ GE211.out | refine below_set ?_ GE216.out) | exact HB.out)⟩
                          (try clear HO_51)
                          (try clear BK207)
                          (try clear BK208)
                          (try clear BK211)
                          (try clear BK216)
                          (try clear HB)
                          generalize ((w42.setCell ⟨gb216, 0, none⟩ (.int .i64 ((rd_T23 t212 x53_3).f0))).setCell ⟨gb216, 1, none⟩ (.int .i64 ((rd_T23 t212 x53_3).f1))) = w47 at n0_ n1_ n2_ n3_ n4_ n5_ ⊢
                          have HO_51 := n0_
                          have BK207 := n1_
                          have BK208 := n2_
                          have BK211 := n3_
                          have BK216 := n4_
                          have HB := n5_
                          clear n0_ n1_ n2_ n3_ n4_ n5_
                          have n0_ := Aside0.mk (Kd.R_drew HO_51.out)
                          have n1_ := Aside0.mk (blk_drew BK207.out)
                          have n2_ := Aside0.mk (blk_drew BK208.out)
                          have n3_ := Aside0.mk (blk_drew BK211.out)
                          have n4_ := Aside0.mk (blk_drew BK216.out)
                          have n5_ := Aside0.mk (below_drew1 HB.out)
                          clear HO_51
                          clear BK207
                          clear BK208
                          clear BK211
                          clear BK216
                          clear HB
                          have HO_51 := n0_
                          have BK207 := n1_
                          have BK208 := n2_
                          have BK211 := n3_
                          have BK216 := n4_
                          have HB := n5_
                          clear n0_ n1_ n2_ n3_ n4_ n5_
                          refine start_ (n := 6) (S := fun w' => w'.cell? ⟨gb211, 0, none⟩ = some (.int .u64 x212000_3) ∧ w'.cell? ⟨gb211, 1, none⟩ = some (.int .u64 x212001_3) ∧ w'.cell? ⟨gb216, 0, none⟩ = some (.int .i64 ((rd_T23 t212 x53_3).f0)) ∧ w'.cell? ⟨gb216, 1, none⟩ = some (.int .i64 ((rd_T23 t212 x53_3).f1))) (ds := [5]) #[false, false, false, false, false, false] (by kernel_rfl) rfl rfl ⟨(blk_cell BK211.out 0).trans rfl, (blk_cell BK211.out 1).trans rfl, (blk_cell BK216.out 0).trans rfl, (blk_cell BK216.out 1).trans rfl⟩ (fun hHeld => ?_)
                          generalize w47.drew = w48 at HO_51 BK207 BK208 BK211 BK216 HB hHeld ⊢
                          refine pure_ (i := 2) (N := some 59) (v := ?_) (a' := ?_) #[false, false, true, false, false, false] rfl rfl (by kernel_rfl) (fun _ _ _ h => h) (Or.inl ⟨by rfl, ?_⟩) ?_ ?_
                          rotate_left
                          · intro w'
                            go_simp
                            with_reducible rfl
                          rotate_left
                          · simp only [Act.put, List.setIfInBounds_toArray, List.set_cons_zero, List.set_cons_succ, i64_w, i32_w]
                            rfl
                          refine take_ (i := 0) (N := some 57) (v := ?_) (a' := ?_) #[true, false, true, false, false, false] rfl rfl (by kernel_rfl) (fun _ _ _ h => h) (Or.inl ⟨by rfl, ?_⟩) hHeld ?_ ?_
                          rotate_left
                          · rintro w' ⟨s0, s1, s2, s3⟩
                            go_simp
                            with_reducible rfl
                          rotate_left
                          · simp only [Act.put, List.setIfInBounds_toArray, List.set_cons_zero, List.set_cons_succ, i64_w, i32_w]
                            rfl
                          refine take_ (i := 1) (N := some 58) (v := ?_) (a' := ?_) #[true, true, true, false, false, false] rfl rfl (by kernel_rfl) (fun _ _ _ h => h) (Or.inl ⟨by rfl, ?_⟩) hHeld ?_ ?_
                          rotate_left
                          · rintro w' ⟨s0, s1, s2, s3⟩
                            go_simp
                            with_reducible rfl
                          rotate_left
                          · simp only [Act.put, List.setIfInBounds_toArray, List.set_cons_zero, List.set_cons_succ, i64_w, i32_w]
                            rfl
                          refine one_ (i := 3) (N := some 60) #[true, true, true, true, false, false] rfl rfl (by kernel_rfl) (by decide) (fun K hK => ?_)
                          refine goes_ Try.func10 (by kernel_rfl) rfl #[.agg #[.int .i64 ((rd_T23 t212 x53_3).f0), .int .i64 ((rd_T23 t212 x53_3).f1)], .int .i64 a1] (by rfl) rfl rfl (by (try simp only [List.map_toArray, List.map_cons, List.map_nil]); first | done | rfl | (simp only [List.length_drop, List.length_take]; rfl)) ?_
                          with_reducible refine (step_Dir_From.calls ((rd_T23 t212 x53_3).f0) ((rd_T23 t212 x53_3).f1) a1 t217 _ A40.out).mono ?_
                          rintro e w49 ⟨rfl, hb⟩
                          refine ⟨_, rfl, ?_⟩
                          have n0_ := Aside0.mk (Kd.R_below (by (with_reducible repeat (first | apply Kd.R_alloc | apply Kd.R_drewN | apply Kd.R_drew)); exact HO_51.out) hb)
                          have n1_ := Aside0.mk (blk_below (g := gb207) (o := .cells #[.int .u64 t203, .int .u64 t204] 30 (0, 0)) (by (with_reducible repeat (first | refine blk_drewN ?_ _ | refine blk_drew ?_ | refine blk_alloc ?_ _)); exact BK207.out) hb)
                          have n2_ := Aside0.mk (blk_below (g := gb208) (o := .cells #[.int .u64 t205, .int .u64 t206] 30 (0, 0)) (by (with_reducible repeat (first | refine blk_drewN ?_ _ | refine blk_drew ?_ | refine blk_alloc ?_ _)); exact BK208.out) hb)
                          have n3_ := Aside0.mk (blk_below (g := gb211) (o := .cells #[.int .u64 x212000_3, .int .u64 x212001_3] 30 (0, 0)) (by (with_reducible repeat (first | refine blk_drewN ?_ _ | refine blk_drew ?_ | refine blk_alloc ?_ _)); exact BK211.out) hb)
                          have n4_ := Aside0.mk (blk_below (g := gb216) (o := .cells #[.int .i64 ((rd_T23 t212 x53_3).f0), .int .i64 ((rd_T23 t212 x53_3).f1)] 23 (0, 0)) (by (with_reducible repeat (first | refine blk_drewN ?_ _ | refine blk_drew ?_ | refine blk_alloc ?_ _)); exact BK216.out) hb)
                          have n5_ := Aside0.mk (below_step (by repeat (first | (with_reducible first | exact HB.out | apply below_alloc | apply pw_below_drewN | apply below_drew1 | refine below_set ?_ GE207.out | refine below_set ?_ GE208.out | refine below_set ?_ GE211.out | refine below_set ?_ GE216.out) | exact HB.out)) hb)
                          clear HO_51
                          clear BK207
                          clear BK208
                          clear BK211
                          clear BK216
                          clear HB
                          have HO_51 := n0_
                          have BK207 := n1_
                          have BK208 := n2_
                          have BK211 := n3_
                          have BK216 := n4_
                          have HB := n5_
                          clear n0_ n1_ n2_ n3_ n4_ n5_
                          (try clear hb)
                          (try clear hb2)
                          (try clear hk)
                          (try clear hi)
                          refine hK.out _ _ ⟨(blk_cell BK211.out 0).trans rfl, (blk_cell BK211.out 1).trans rfl, (blk_cell BK216.out 0).trans rfl, (blk_cell BK216.out 1).trans rfl⟩ (fun hHeld => ?_)
                          clear hK K
                          refine norm_ (a' := ?_) ?_ ?_
                          rotate_left
                          · show Act.put _ (some 60) _ = _
                            simp only [Act.put, List.setIfInBounds_toArray, List.set_cons_zero, List.set_cons_succ, i64_w, i32_w]
                            rfl
                          refine one_ (i := 4) (N := some 61) #[true, true, true, true, true, false] rfl rfl (by kernel_rfl) (by decide) (fun K hK => ?_)
                          refine goes_ Try.func17 (by kernel_rfl) rfl #[.agg #[.int .u64 x212000_3, .int .u64 x212001_3], .int .i64 t217] (by rfl) rfl rfl (by (try simp only [List.map_toArray, List.map_cons, List.map_nil]); first | done | rfl | (simp only [List.length_drop, List.length_take]; rfl)) ?_
                          with_reducible refine (set_Set_With.calls k3 x212000_3 x212001_3 t217 t218 t219 _ A41.out).mono ?_
                          rintro e w50 ⟨rfl, hb⟩
                          refine ⟨_, rfl, ?_⟩
                          have n0_ := Aside0.mk (Kd.R_below (by (with_reducible repeat (first | apply Kd.R_alloc | apply Kd.R_drewN | apply Kd.R_drew)); exact HO_51.out) hb)
                          have n1_ := Aside0.mk (blk_below (g := gb207) (o := .cells #[.int .u64 t203, .int .u64 t204] 30 (0, 0)) (by (with_reducible repeat (first | refine blk_drewN ?_ _ | refine blk_drew ?_ | refine blk_alloc ?_ _)); exact BK207.out) hb)
                          have n2_ := Aside0.mk (blk_below (g := gb208) (o := .cells #[.int .u64 t205, .int .u64 t206] 30 (0, 0)) (by (with_reducible repeat (first | refine blk_drewN ?_ _ | refine blk_drew ?_ | refine blk_alloc ?_ _)); exact BK208.out) hb)
                          have n3_ := Aside0.mk (blk_below (g := gb211) (o := .cells #[.int .u64 x212000_3, .int .u64 x212001_3] 30 (0, 0)) (by (with_reducible repeat (first | refine blk_drewN ?_ _ | refine blk_drew ?_ | refine blk_alloc ?_ _)); exact BK211.out) hb)
                          have n4_ := Aside0.mk (blk_below (g := gb216) (o := .cells #[.int .i64 ((rd_T23 t212 x53_3).f0), .int .i64 ((rd_T23 t212 x53_3).f1)] 23 (0, 0)) (by (with_reducible repeat (first | refine blk_drewN ?_ _ | refine blk_drew ?_ | refine blk_alloc ?_ _)); exact BK216.out) hb)
                          have n5_ := Aside0.mk (below_step (by repeat (first | (with_reducible first | exact HB.out | apply below_alloc | apply pw_below_drewN | apply below_drew1 | refine below_set ?_ GE207.out | refine below_set ?_ GE208.out | refine below_set ?_ GE211.out | refine below_set ?_ GE216.out) | exact HB.out)) hb)
                          clear HO_51
                          clear BK207
                          clear BK208
                          clear BK211
                          clear BK216
                          clear HB
                          have HO_51 := n0_
                          have BK207 := n1_
                          have BK208 := n2_
                          have BK211 := n3_
                          have BK216 := n4_
                          have HB := n5_
                          clear n0_ n1_ n2_ n3_ n4_ n5_
                          (try clear hb)
                          (try clear hb2)
                          (try clear hk)
                          (try clear hi)
                          refine hK.out _ _ ⟨(blk_cell BK211.out 0).trans rfl, (blk_cell BK211.out 1).trans rfl, (blk_cell BK216.out 0).trans rfl, (blk_cell BK216.out 1).trans rfl⟩ (fun hHeld => ?_)
                          clear hK K
                          refine norm_ (a' := ?_) ?_ ?_
                          rotate_left
                          · show Act.put _ (some 61) _ = _
                            simp only [Act.put, List.setIfInBounds_toArray, List.set_cons_zero, List.set_cons_succ, i64_w, i32_w]
                            rfl
                          refine last_ (i := 5) (N := none) #[true, true, true, true, true, true] rfl rfl (by kernel_rfl) (by decide) (fun K hK => ?_)
                          have hs51 : w50.cell? ⟨gb211, 0, none⟩ = some (.int .u64 x212000_3) := (blk_cell BK211.out 0).trans rfl
                          have hfs51 := blk_frozen BK211.out 0
                          have hns51_0 := NB207_211.out
                          have hns51_1 := NB208_211.out
                          have hns51_3 := NB216_211.out
                          have hms51_0 := NB211_207.out
                          have hms51_1 := NB211_208.out
                          have hms51_3 := NB211_216.out
                          have hs52 : w50.cell? ⟨gb211, 1, none⟩ = some (.int .u64 x212001_3) := (blk_cell BK211.out 1).trans rfl
                          have hfs52 := blk_frozen BK211.out 1
                          have hns52_0 := NB207_211.out
                          have hns52_1 := NB208_211.out
                          have hns52_3 := NB216_211.out
                          have hms52_0 := NB211_207.out
                          have hms52_1 := NB211_208.out
                          have hms52_3 := NB211_216.out
                          refine skip_ (w1 := ?_) (by rfl) rfl ?_ ?_
                          rotate_left
                          · go_simp
                            rfl
                          refine hK.out _ _ ?_
                          clear hK K
                          refine done_ (by kernel_rfl) ?_
                          try go_wp2
                          go_roundg k3
                          case measure => have := HJ4.out; have := HK2.out; have := HK3.out; omega
                          case rel => exact ⟨(wrap64 (x53_3 + 1)), (t218), (t219), (by first | rfl | (simp; done) | (simp [*]; done)), H', ⟨by have := HJ4.out; have := HK2.out; have := HK3.out; omega⟩, ⟨by (with_reducible repeat (first | apply Kd.R_alloc | apply Kd.R_drewN | apply Kd.R_drew)); exact Kd.R_mono (Kd.R_far (p := ⟨gb211, 1, none⟩) (Kd.R_far (p := ⟨gb211, 0, none⟩) (Kd.R_types HO_51.out BK211.out (by decide)) (fun _ hk => hk.2) (.int .u64 t218)) (fun _ hk => hk.2) (.int .u64 t219)) (fun _ hk => trivial)⟩, ⟨by (with_reducible repeat (first | refine blk_drewN ?_ _ | refine blk_drew ?_ | refine blk_alloc ?_ _)); refine blk_far ?_ NB207_211.out _; (with_reducible repeat (first | refine blk_drewN ?_ _ | refine blk_drew ?_ | refine blk_alloc ?_ _)); refine blk_far ?_ NB207_211.out _; (with_reducible repeat (first | refine blk_drewN ?_ _ | refine blk_drew ?_ | refine blk_alloc ?_ _)); exact BK207.out⟩, ⟨by (with_reducible repeat (first | refine blk_drewN ?_ _ | refine blk_drew ?_ | refine blk_alloc ?_ _)); refine blk_far ?_ NB208_211.out _; (with_reducible repeat (first | refine blk_drewN ?_ _ | refine blk_drew ?_ | refine blk_alloc ?_ _)); refine blk_far ?_ NB208_211.out _; (with_reducible repeat (first | refine blk_drewN ?_ _ | refine blk_drew ?_ | refine blk_alloc ?_ _)); exact BK208.out⟩, ⟨by (with_reducible repeat (first | refine blk_drewN ?_ _ | refine blk_drew ?_ | refine blk_alloc ?_ _)); refine blk_put (cs := #[.int .u64 t218, .int .u64 x212001_3]) ?_ 1 _ rfl; (with_reducible repeat (first | refine blk_drewN ?_ _ | refine blk_drew ?_ | refine blk_alloc ?_ _)); refine blk_put (cs := #[.int .u64 x212000_3, .int .u64 x212001_3]) ?_ 0 _ rfl; (with_reducible repeat (first | refine blk_drewN ?_ _ | refine blk_drew ?_ | refine blk_alloc ?_ _)); exact BK211.out⟩, ⟨by repeat (first | (with_reducible first | exact HB.out | apply below_alloc | apply pw_below_drewN | apply below_drew1 | refine below_set ?_ GE207.out | refine below_set ?_ GE208.out | refine below_set ?_ GE211.out | refine below_set ?_ GE216.out) | exact HB.out)⟩⟩
                        · rw [if_neg c39] at H
                          exact absurd H (by simp)
                      · rw [if_neg c38] at H
                        exact absurd H (by simp)
                    · rw [if_neg c37] at H
                      have c37b0 : decide (x53_3 < (t212.length : Int)) = false := decide_eq_false c37
                      clear c37
                      by_cases c53 : (!(x212000_3 == t203) || (!(x212001_3 == t204))) = true
                      · rw [if_pos c53] at H
                        have c53b0 : (!(x212000_3 == t203) || (!(x212001_3 == t204))) = true := c53
                        clear c53
                        obtain rfl := Option.some.inj H
                        have hnb54 := NB211_207.out
                        have hnc54 := NB207_211.out
                        have hnb55 := NB211_208.out
                        have hnc55 := NB208_211.out
                        have hcz56_0 : wr.cell? ⟨gb211, 0, none⟩ = some (.int .u64 x212000_3) := (blk_cell BK211.out 0).trans rfl
                        have hcz56_1 : wr.cell? ⟨gb211, 1, none⟩ = some (.int .u64 x212001_3) := (blk_cell BK211.out 1).trans rfl
                        have hfz56_0 := blk_frozen BK211.out 0
                        have hfz56_1 := blk_frozen BK211.out 1
                        have hnb57 := NB207_208.out
                        have hnc57 := NB208_207.out
                        have hcz58_0 : wr.cell? ⟨gb207, 0, none⟩ = some (.int .u64 t203) := (blk_cell BK207.out 0).trans rfl
                        have hcz58_1 : wr.cell? ⟨gb207, 1, none⟩ = some (.int .u64 t204) := (blk_cell BK207.out 1).trans rfl
                        have hfz58_0 := blk_frozen BK207.out 0
                        have hfz58_1 := blk_frozen BK207.out 1
                        go_wp2
                        go_ret
                        exact ⟨by first | rfl | (simp [errW_none, errW_some] <;> rfl) | (simp [*, errW_none, errW_some] <;> rfl) | (simp [*, errW_none, errW_some]; generalize ByteArray.toList _ = q_; cases q_ <;> rfl), by repeat (first | (with_reducible first | exact HB.out | apply below_alloc | apply pw_below_drewN | apply below_drew1 | refine below_set ?_ GE207.out | refine below_set ?_ GE208.out | refine below_set ?_ GE211.out) | exact HB.out)⟩
                      · rw [if_neg c53] at H
                        have c53b0 : (!(x212000_3 == t203) || (!(x212001_3 == t204))) = false := by simpa using c53
                        clear c53
                        replace H := Option.bind_eq_some_iff.mp H
                        obtain ⟨t220, A590, H⟩ := H
                        replace H : ((set_Set_Count.f t205 t206).bind fun t221 => (if t220 = t221 then ((set_Set_Count.f t203 t204).bind fun t222 => (some (decide (t222 ≤ 8)))) else (some false))) = some r := H
                        have A59 := Aside0.mk A590
                        clear A590
                        replace H := Option.bind_eq_some_iff.mp H
                        obtain ⟨t221, A600, H⟩ := H
                        replace H : (if t220 = t221 then ((set_Set_Count.f t203 t204).bind fun t222 => (some (decide (t222 ≤ 8)))) else (some false)) = some r := H
                        have A60 := Aside0.mk A600
                        clear A600
                        by_cases c61 : t220 = t221
                        · rw [if_pos c61] at H
                          have c61b0 : (t220 == t221) = true := beq_iff_eq.mpr c61
                          have c61b1 : (t220 != t221) = false := bne_eq_false_iff_eq.mpr c61
                          clear c61
                          replace H := Option.bind_eq_some_iff.mp H
                          obtain ⟨t222, A620, H⟩ := H
                          replace H : (some (decide (t222 ≤ 8))) = some r := H
                          have A62 := Aside0.mk A620
                          clear A620
                          obtain rfl := Option.some.inj H
                          have hnb63 := NB211_207.out
                          have hnc63 := NB207_211.out
                          have hnb64 := NB211_208.out
                          have hnc64 := NB208_211.out
                          have hcz65_0 : wr.cell? ⟨gb211, 0, none⟩ = some (.int .u64 x212000_3) := (blk_cell BK211.out 0).trans rfl
                          have hcz65_1 : wr.cell? ⟨gb211, 1, none⟩ = some (.int .u64 x212001_3) := (blk_cell BK211.out 1).trans rfl
                          have hfz65_0 := blk_frozen BK211.out 0
                          have hfz65_1 := blk_frozen BK211.out 1
                          have hnb66 := NB207_208.out
                          have hnc66 := NB208_207.out
                          have hcz67_0 : wr.cell? ⟨gb207, 0, none⟩ = some (.int .u64 t203) := (blk_cell BK207.out 0).trans rfl
                          have hcz67_1 : wr.cell? ⟨gb207, 1, none⟩ = some (.int .u64 t204) := (blk_cell BK207.out 1).trans rfl
                          have hfz67_0 := blk_frozen BK207.out 0
                          have hfz67_1 := blk_frozen BK207.out 1
                          try go_wp2
                          have n0_ := Aside0.mk (Kd.R_drew HO_51.out)
                          have n1_ := Aside0.mk (blk_drew BK207.out)
                          have n2_ := Aside0.mk (blk_drew BK208.out)
                          have n3_ := Aside0.mk (blk_drew BK211.out)
                          have n4_ := Aside0.mk (below_drew1 HB.out)
                          clear HO_51
                          clear BK207
                          clear BK208
                          clear BK211
                          clear HB
                          have HO_51 := n0_
                          have BK207 := n1_
                          have BK208 := n2_
                          have BK211 := n3_
                          have HB := n4_
                          clear n0_ n1_ n2_ n3_ n4_
                          refine start_ (n := 11) (S := fun w' => w'.cell? ⟨gb207, 0, none⟩ = some (.int .u64 t203) ∧ w'.cell? ⟨gb207, 1, none⟩ = some (.int .u64 t204) ∧ w'.cell? ⟨gb208, 0, none⟩ = some (.int .u64 t205) ∧ w'.cell? ⟨gb208, 1, none⟩ = some (.int .u64 t206)) (ds := []) #[false, false, false, false, false, false, false, false, false, false, false] (by kernel_rfl) rfl rfl ⟨(blk_cell BK207.out 0).trans rfl, (blk_cell BK207.out 1).trans rfl, (blk_cell BK208.out 0).trans rfl, (blk_cell BK208.out 1).trans rfl⟩ (fun hHeld => ?_); refine with_tabW kakugyolaw03_StepTurns.tab19 kakugyolaw03_StepTurns.bits19 (fun HT_ HW_ => ?_)
                          generalize wr.drew = w68 at HO_51 BK207 BK208 BK211 HB hHeld ⊢
                          refine take_ (i := 0) (N := some 66) (v := ?_) (a' := ?_) #[true, false, false, false, false, false, false, false, false, false, false] rfl rfl (take_ofW HT_.out HW_.out (by kernel_rfl)) (fun _ _ _ h => h) (Or.inl ⟨by rfl, ?_⟩) hHeld ?_ ?_
                          rotate_left
                          · rintro w' ⟨s0, s1, s2, s3⟩
                            go_simp
                            with_reducible rfl
                          rotate_left
                          · simp only [Act.put, List.setIfInBounds_toArray, List.set_cons_zero, List.set_cons_succ, i64_w, i32_w]
                            rfl
                          refine take_ (i := 2) (N := some 68) (v := ?_) (a' := ?_) #[true, false, true, false, false, false, false, false, false, false, false] rfl rfl (take_ofW HT_.out HW_.out (by kernel_rfl)) (fun _ _ _ h => h) (Or.inl ⟨by rfl, ?_⟩) hHeld ?_ ?_
                          rotate_left
                          · rintro w' ⟨s0, s1, s2, s3⟩
                            go_simp
                            with_reducible rfl
                          rotate_left
                          · simp only [Act.put, List.setIfInBounds_toArray, List.set_cons_zero, List.set_cons_succ, i64_w, i32_w]
                            rfl
                          refine one_ (i := 1) (N := some 67) #[true, true, true, false, false, false, false, false, false, false, false] rfl rfl (one_of HT_.out (by kernel_rfl)) (by decide) (fun K hK => ?_)
                          refine goes_ Try.func18 (by kernel_rfl) rfl #[.agg #[.int .u64 t203, .int .u64 t204]] (by rfl) rfl rfl (by (try simp only [List.map_toArray, List.map_cons, List.map_nil]); first | done | rfl | (simp only [List.length_drop, List.length_take]; rfl)) ?_
                          with_reducible refine (set_Set_Count.calls t203 t204 t220 _ A59.out).mono ?_
                          rintro e w69 ⟨rfl, hb⟩
                          refine ⟨_, rfl, ?_⟩
                          have n0_ := Aside0.mk (Kd.R_below (by (with_reducible repeat (first | apply Kd.R_alloc | apply Kd.R_drewN | apply Kd.R_drew)); exact HO_51.out) hb)
                          have n1_ := Aside0.mk (blk_below (g := gb207) (o := .cells #[.int .u64 t203, .int .u64 t204] 30 (0, 0)) (by (with_reducible repeat (first | refine blk_drewN ?_ _ | refine blk_drew ?_ | refine blk_alloc ?_ _)); exact BK207.out) hb)
                          have n2_ := Aside0.mk (blk_below (g := gb208) (o := .cells #[.int .u64 t205, .int .u64 t206] 30 (0, 0)) (by (with_reducible repeat (first | refine blk_drewN ?_ _ | refine blk_drew ?_ | refine blk_alloc ?_ _)); exact BK208.out) hb)
                          have n3_ := Aside0.mk (blk_below (g := gb211) (o := .cells #[.int .u64 x212000_3, .int .u64 x212001_3] 30 (0, 0)) (by (with_reducible repeat (first | refine blk_drewN ?_ _ | refine blk_drew ?_ | refine blk_alloc ?_ _)); exact BK211.out) hb)
                          have n4_ := Aside0.mk (below_step (by repeat (first | (with_reducible first | exact HB.out | apply below_alloc | apply pw_below_drewN | apply below_drew1 | refine below_set ?_ GE207.out | refine below_set ?_ GE208.out | refine below_set ?_ GE211.out) | exact HB.out)) hb)
                          clear HO_51
                          clear BK207
                          clear BK208
                          clear BK211
                          clear HB
                          have HO_51 := n0_
                          have BK207 := n1_
                          have BK208 := n2_
                          have BK211 := n3_
                          have HB := n4_
                          clear n0_ n1_ n2_ n3_ n4_
                          (try clear hb)
                          (try clear hb2)
                          (try clear hk)
                          (try clear hi)
                          refine hK.out _ _ ⟨(blk_cell BK207.out 0).trans rfl, (blk_cell BK207.out 1).trans rfl, (blk_cell BK208.out 0).trans rfl, (blk_cell BK208.out 1).trans rfl⟩ (fun hHeld => ?_)
                          clear hK K
                          refine norm_ (a' := ?_) ?_ ?_
                          rotate_left
                          · show Act.put _ (some 67) _ = _
                            simp only [Act.put, List.setIfInBounds_toArray, List.set_cons_zero, List.set_cons_succ, i64_w, i32_w]
                            rfl
                          refine one_ (i := 3) (N := some 69) #[true, true, true, true, false, false, false, false, false, false, false] rfl rfl (one_of HT_.out (by kernel_rfl)) (by decide) (fun K hK => ?_)
                          refine goes_ Try.func18 (by kernel_rfl) rfl #[.agg #[.int .u64 t205, .int .u64 t206]] (by rfl) rfl rfl (by (try simp only [List.map_toArray, List.map_cons, List.map_nil]); first | done | rfl | (simp only [List.length_drop, List.length_take]; rfl)) ?_
                          with_reducible refine (set_Set_Count.calls t205 t206 t221 _ A60.out).mono ?_
                          rintro e w70 ⟨rfl, hb⟩
                          refine ⟨_, rfl, ?_⟩
                          have n0_ := Aside0.mk (Kd.R_below (by (with_reducible repeat (first | apply Kd.R_alloc | apply Kd.R_drewN | apply Kd.R_drew)); exact HO_51.out) hb)
                          have n1_ := Aside0.mk (blk_below (g := gb207) (o := .cells #[.int .u64 t203, .int .u64 t204] 30 (0, 0)) (by (with_reducible repeat (first | refine blk_drewN ?_ _ | refine blk_drew ?_ | refine blk_alloc ?_ _)); exact BK207.out) hb)
                          have n2_ := Aside0.mk (blk_below (g := gb208) (o := .cells #[.int .u64 t205, .int .u64 t206] 30 (0, 0)) (by (with_reducible repeat (first | refine blk_drewN ?_ _ | refine blk_drew ?_ | refine blk_alloc ?_ _)); exact BK208.out) hb)
                          have n3_ := Aside0.mk (blk_below (g := gb211) (o := .cells #[.int .u64 x212000_3, .int .u64 x212001_3] 30 (0, 0)) (by (with_reducible repeat (first | refine blk_drewN ?_ _ | refine blk_drew ?_ | refine blk_alloc ?_ _)); exact BK211.out) hb)
                          have n4_ := Aside0.mk (below_step (by repeat (first | (with_reducible first | exact HB.out | apply below_alloc | apply pw_below_drewN | apply below_drew1 | refine below_set ?_ GE207.out | refine below_set ?_ GE208.out | refine below_set ?_ GE211.out) | exact HB.out)) hb)
                          clear HO_51
                          clear BK207
                          clear BK208
                          clear BK211
                          clear HB
                          have HO_51 := n0_
                          have BK207 := n1_
                          have BK208 := n2_
                          have BK211 := n3_
                          have HB := n4_
                          clear n0_ n1_ n2_ n3_ n4_
                          (try clear hb)
                          (try clear hb2)
                          (try clear hk)
                          (try clear hi)
                          refine hK.out _ _ ⟨(blk_cell BK207.out 0).trans rfl, (blk_cell BK207.out 1).trans rfl, (blk_cell BK208.out 0).trans rfl, (blk_cell BK208.out 1).trans rfl⟩ (fun hHeld => ?_)
                          clear hK K
                          refine norm_ (a' := ?_) ?_ ?_
                          rotate_left
                          · show Act.put _ (some 69) _ = _
                            simp only [Act.put, List.setIfInBounds_toArray, List.set_cons_zero, List.set_cons_succ, i64_w, i32_w]
                            rfl
                          refine pure_ (i := 4) (N := some 70) (v := ?_) (a' := ?_) #[true, true, true, true, true, false, false, false, false, false, false] rfl rfl (any_of HT_.out (by kernel_rfl)) (fun _ _ _ h => h) (Or.inl ⟨by rfl, ?_⟩) ?_ ?_
                          rotate_left
                          · intro w'
                            go_simp
                            with_reducible rfl
                          rotate_left
                          · simp only [Act.put, List.setIfInBounds_toArray, List.set_cons_zero, List.set_cons_succ, i64_w, i32_w]
                            rfl
                          refine pure_ (i := 5) (N := some 71) (v := ?_) (a' := ?_) #[true, true, true, true, true, true, false, false, false, false, false] rfl rfl (any_of HT_.out (by kernel_rfl)) (fun _ _ _ h => h) (Or.inl ⟨by rfl, ?_⟩) ?_ ?_
                          rotate_left
                          · intro w'
                            go_simp
                            with_reducible rfl
                          rotate_left
                          · simp only [Act.put, List.setIfInBounds_toArray, List.set_cons_zero, List.set_cons_succ, i64_w, i32_w]
                            rfl
                          refine take_ (i := 6) (N := some 72) (v := ?_) (a' := ?_) #[true, true, true, true, true, true, true, false, false, false, false] rfl rfl (take_ofW HT_.out HW_.out (by kernel_rfl)) (fun _ _ _ h => h) (Or.inl ⟨by rfl, ?_⟩) hHeld ?_ ?_
                          rotate_left
                          · rintro w' ⟨s0, s1, s2, s3⟩
                            go_simp
                            with_reducible rfl
                          rotate_left
                          · simp only [Act.put, List.setIfInBounds_toArray, List.set_cons_zero, List.set_cons_succ, i64_w, i32_w]
                            rfl
                          refine one_ (i := 7) (N := some 73) #[true, true, true, true, true, true, true, true, false, false, false] rfl rfl (one_of HT_.out (by kernel_rfl)) (by decide) (fun K hK => ?_)
                          refine goes_ Try.func18 (by kernel_rfl) rfl #[.agg #[.int .u64 t203, .int .u64 t204]] (by rfl) rfl rfl (by (try simp only [List.map_toArray, List.map_cons, List.map_nil]); first | done | rfl | (simp only [List.length_drop, List.length_take]; rfl)) ?_
                          with_reducible refine (set_Set_Count.calls t203 t204 t222 _ A62.out).mono ?_
                          rintro e w71 ⟨rfl, hb⟩
                          refine ⟨_, rfl, ?_⟩
                          have n0_ := Aside0.mk (Kd.R_below (by (with_reducible repeat (first | apply Kd.R_alloc | apply Kd.R_drewN | apply Kd.R_drew)); exact HO_51.out) hb)
                          have n1_ := Aside0.mk (blk_below (g := gb207) (o := .cells #[.int .u64 t203, .int .u64 t204] 30 (0, 0)) (by (with_reducible repeat (first | refine blk_drewN ?_ _ | refine blk_drew ?_ | refine blk_alloc ?_ _)); exact BK207.out) hb)
                          have n2_ := Aside0.mk (blk_below (g := gb208) (o := .cells #[.int .u64 t205, .int .u64 t206] 30 (0, 0)) (by (with_reducible repeat (first | refine blk_drewN ?_ _ | refine blk_drew ?_ | refine blk_alloc ?_ _)); exact BK208.out) hb)
                          have n3_ := Aside0.mk (blk_below (g := gb211) (o := .cells #[.int .u64 x212000_3, .int .u64 x212001_3] 30 (0, 0)) (by (with_reducible repeat (first | refine blk_drewN ?_ _ | refine blk_drew ?_ | refine blk_alloc ?_ _)); exact BK211.out) hb)
                          have n4_ := Aside0.mk (below_step (by repeat (first | (with_reducible first | exact HB.out | apply below_alloc | apply pw_below_drewN | apply below_drew1 | refine below_set ?_ GE207.out | refine below_set ?_ GE208.out | refine below_set ?_ GE211.out) | exact HB.out)) hb)
                          clear HO_51
                          clear BK207
                          clear BK208
                          clear BK211
                          clear HB
                          have HO_51 := n0_
                          have BK207 := n1_
                          have BK208 := n2_
                          have BK211 := n3_
                          have HB := n4_
                          clear n0_ n1_ n2_ n3_ n4_
                          (try clear hb)
                          (try clear hb2)
                          (try clear hk)
                          (try clear hi)
                          refine hK.out _ _ ⟨(blk_cell BK207.out 0).trans rfl, (blk_cell BK207.out 1).trans rfl, (blk_cell BK208.out 0).trans rfl, (blk_cell BK208.out 1).trans rfl⟩ (fun hHeld => ?_)
                          clear hK K
                          refine norm_ (a' := ?_) ?_ ?_
                          rotate_left
                          · show Act.put _ (some 73) _ = _
                            simp only [Act.put, List.setIfInBounds_toArray, List.set_cons_zero, List.set_cons_succ, i64_w, i32_w]
                            rfl
                          refine pure_ (i := 8) (N := some 74) (v := ?_) (a' := ?_) #[true, true, true, true, true, true, true, true, true, false, false] rfl rfl (any_of HT_.out (by kernel_rfl)) (fun _ _ _ h => h) (Or.inl ⟨by rfl, ?_⟩) ?_ ?_
                          rotate_left
                          · intro w'
                            go_simp
                            with_reducible rfl
                          rotate_left
                          · simp only [Act.put, List.setIfInBounds_toArray, List.set_cons_zero, List.set_cons_succ, i64_w, i32_w]
                            rfl
                          refine pure_ (i := 9) (N := some 75) (v := ?_) (a' := ?_) #[true, true, true, true, true, true, true, true, true, true, false] rfl rfl (any_of HT_.out (by kernel_rfl)) (fun _ _ _ h => h) (Or.inl ⟨by rfl, ?_⟩) ?_ ?_
                          rotate_left
                          · intro w'
                            go_simp
                            with_reducible rfl
                          rotate_left
                          · simp only [Act.put, List.setIfInBounds_toArray, List.set_cons_zero, List.set_cons_succ, i64_w, i32_w]
                            rfl
                          refine pure_ (i := 10) (N := some 4) (v := ?_) (a' := ?_) #[true, true, true, true, true, true, true, true, true, true, true] rfl rfl (any_of HT_.out (by kernel_rfl)) (fun _ _ _ h => h) (Or.inl ⟨by rfl, ?_⟩) ?_ ?_
                          rotate_left
                          · intro w'
                            go_simp
                            with_reducible rfl
                          rotate_left
                          · simp only [Act.put, List.setIfInBounds_toArray, List.set_cons_zero, List.set_cons_succ, i64_w, i32_w]
                            rfl
                          refine done_ (done_of HT_.out (by kernel_rfl)) ?_
                          try go_wp2
                          go_ret
                          exact ⟨by first | rfl | (simp [errW_none, errW_some] <;> rfl) | (simp [*, errW_none, errW_some] <;> rfl) | (simp [*, errW_none, errW_some]; generalize ByteArray.toList _ = q_; cases q_ <;> rfl), by repeat (first | (with_reducible first | exact HB.out | apply below_alloc | apply pw_below_drewN | apply below_drew1 | refine below_set ?_ GE207.out | refine below_set ?_ GE208.out | refine below_set ?_ GE211.out) | exact HB.out)⟩
                        · rw [if_neg c61] at H
                          have c61b0 : (t220 == t221) = false := beq_eq_false_iff_ne.mpr c61
                          have c61b1 : (t220 != t221) = true := bne_iff_ne.mpr c61
                          obtain rfl := Option.some.inj H
                          have hnb72 := NB211_207.out
                          have hnc72 := NB207_211.out
                          have hnb73 := NB211_208.out
                          have hnc73 := NB208_211.out
                          have hcz74_0 : wr.cell? ⟨gb211, 0, none⟩ = some (.int .u64 x212000_3) := (blk_cell BK211.out 0).trans rfl
                          have hcz74_1 : wr.cell? ⟨gb211, 1, none⟩ = some (.int .u64 x212001_3) := (blk_cell BK211.out 1).trans rfl
                          have hfz74_0 := blk_frozen BK211.out 0
                          have hfz74_1 := blk_frozen BK211.out 1
                          have hnb75 := NB207_208.out
                          have hnc75 := NB208_207.out
                          have hcz76_0 : wr.cell? ⟨gb207, 0, none⟩ = some (.int .u64 t203) := (blk_cell BK207.out 0).trans rfl
                          have hcz76_1 : wr.cell? ⟨gb207, 1, none⟩ = some (.int .u64 t204) := (blk_cell BK207.out 1).trans rfl
                          have hfz76_0 := blk_frozen BK207.out 0
                          have hfz76_1 := blk_frozen BK207.out 1
                          try go_wp2
                          have n0_ := Aside0.mk (Kd.R_drew HO_51.out)
                          have n1_ := Aside0.mk (blk_drew BK207.out)
                          have n2_ := Aside0.mk (blk_drew BK208.out)
                          have n3_ := Aside0.mk (blk_drew BK211.out)
                          have n4_ := Aside0.mk (below_drew1 HB.out)
                          clear HO_51
                          clear BK207
                          clear BK208
                          clear BK211
                          clear HB
                          have HO_51 := n0_
                          have BK207 := n1_
                          have BK208 := n2_
                          have BK211 := n3_
                          have HB := n4_
                          clear n0_ n1_ n2_ n3_ n4_
                          refine start_ (n := 11) (S := fun w' => w'.cell? ⟨gb207, 0, none⟩ = some (.int .u64 t203) ∧ w'.cell? ⟨gb207, 1, none⟩ = some (.int .u64 t204) ∧ w'.cell? ⟨gb208, 0, none⟩ = some (.int .u64 t205) ∧ w'.cell? ⟨gb208, 1, none⟩ = some (.int .u64 t206)) (ds := []) #[false, false, false, false, false, false, false, false, false, false, false] (by kernel_rfl) rfl rfl ⟨(blk_cell BK207.out 0).trans rfl, (blk_cell BK207.out 1).trans rfl, (blk_cell BK208.out 0).trans rfl, (blk_cell BK208.out 1).trans rfl⟩ (fun hHeld => ?_); refine with_tabW kakugyolaw03_StepTurns.tab19 kakugyolaw03_StepTurns.bits19 (fun HT_ HW_ => ?_)
                          generalize wr.drew = w77 at HO_51 BK207 BK208 BK211 HB hHeld ⊢
                          refine take_ (i := 0) (N := some 66) (v := ?_) (a' := ?_) #[true, false, false, false, false, false, false, false, false, false, false] rfl rfl (take_ofW HT_.out HW_.out (by kernel_rfl)) (fun _ _ _ h => h) (Or.inl ⟨by rfl, ?_⟩) hHeld ?_ ?_
                          rotate_left
                          · rintro w' ⟨s0, s1, s2, s3⟩
                            go_simp
                            with_reducible rfl
                          rotate_left
                          · simp only [Act.put, List.setIfInBounds_toArray, List.set_cons_zero, List.set_cons_succ, i64_w, i32_w]
                            rfl
                          refine take_ (i := 2) (N := some 68) (v := ?_) (a' := ?_) #[true, false, true, false, false, false, false, false, false, false, false] rfl rfl (take_ofW HT_.out HW_.out (by kernel_rfl)) (fun _ _ _ h => h) (Or.inl ⟨by rfl, ?_⟩) hHeld ?_ ?_
                          rotate_left
                          · rintro w' ⟨s0, s1, s2, s3⟩
                            go_simp
                            with_reducible rfl
                          rotate_left
                          · simp only [Act.put, List.setIfInBounds_toArray, List.set_cons_zero, List.set_cons_succ, i64_w, i32_w]
                            rfl
                          refine one_ (i := 1) (N := some 67) #[true, true, true, false, false, false, false, false, false, false, false] rfl rfl (one_of HT_.out (by kernel_rfl)) (by decide) (fun K hK => ?_)
                          refine goes_ Try.func18 (by kernel_rfl) rfl #[.agg #[.int .u64 t203, .int .u64 t204]] (by rfl) rfl rfl (by (try simp only [List.map_toArray, List.map_cons, List.map_nil]); first | done | rfl | (simp only [List.length_drop, List.length_take]; rfl)) ?_
                          with_reducible refine (set_Set_Count.calls t203 t204 t220 _ A59.out).mono ?_
                          rintro e w78 ⟨rfl, hb⟩
                          refine ⟨_, rfl, ?_⟩
                          have n0_ := Aside0.mk (Kd.R_below (by (with_reducible repeat (first | apply Kd.R_alloc | apply Kd.R_drewN | apply Kd.R_drew)); exact HO_51.out) hb)
                          have n1_ := Aside0.mk (blk_below (g := gb207) (o := .cells #[.int .u64 t203, .int .u64 t204] 30 (0, 0)) (by (with_reducible repeat (first | refine blk_drewN ?_ _ | refine blk_drew ?_ | refine blk_alloc ?_ _)); exact BK207.out) hb)
                          have n2_ := Aside0.mk (blk_below (g := gb208) (o := .cells #[.int .u64 t205, .int .u64 t206] 30 (0, 0)) (by (with_reducible repeat (first | refine blk_drewN ?_ _ | refine blk_drew ?_ | refine blk_alloc ?_ _)); exact BK208.out) hb)
                          have n3_ := Aside0.mk (blk_below (g := gb211) (o := .cells #[.int .u64 x212000_3, .int .u64 x212001_3] 30 (0, 0)) (by (with_reducible repeat (first | refine blk_drewN ?_ _ | refine blk_drew ?_ | refine blk_alloc ?_ _)); exact BK211.out) hb)
                          have n4_ := Aside0.mk (below_step (by repeat (first | (with_reducible first | exact HB.out | apply below_alloc | apply pw_below_drewN | apply below_drew1 | refine below_set ?_ GE207.out | refine below_set ?_ GE208.out | refine below_set ?_ GE211.out) | exact HB.out)) hb)
                          clear HO_51
                          clear BK207
                          clear BK208
                          clear BK211
                          clear HB
                          have HO_51 := n0_
                          have BK207 := n1_
                          have BK208 := n2_
                          have BK211 := n3_
                          have HB := n4_
                          clear n0_ n1_ n2_ n3_ n4_
                          (try clear hb)
                          (try clear hb2)
                          (try clear hk)
                          (try clear hi)
                          refine hK.out _ _ ⟨(blk_cell BK207.out 0).trans rfl, (blk_cell BK207.out 1).trans rfl, (blk_cell BK208.out 0).trans rfl, (blk_cell BK208.out 1).trans rfl⟩ (fun hHeld => ?_)
                          clear hK K
                          refine norm_ (a' := ?_) ?_ ?_
                          rotate_left
                          · show Act.put _ (some 67) _ = _
                            simp only [Act.put, List.setIfInBounds_toArray, List.set_cons_zero, List.set_cons_succ, i64_w, i32_w]
                            rfl
                          refine one_ (i := 3) (N := some 69) #[true, true, true, true, false, false, false, false, false, false, false] rfl rfl (one_of HT_.out (by kernel_rfl)) (by decide) (fun K hK => ?_)
                          refine goes_ Try.func18 (by kernel_rfl) rfl #[.agg #[.int .u64 t205, .int .u64 t206]] (by rfl) rfl rfl (by (try simp only [List.map_toArray, List.map_cons, List.map_nil]); first | done | rfl | (simp only [List.length_drop, List.length_take]; rfl)) ?_
                          with_reducible refine (set_Set_Count.calls t205 t206 t221 _ A60.out).mono ?_
                          rintro e w79 ⟨rfl, hb⟩
                          refine ⟨_, rfl, ?_⟩
                          have n0_ := Aside0.mk (Kd.R_below (by (with_reducible repeat (first | apply Kd.R_alloc | apply Kd.R_drewN | apply Kd.R_drew)); exact HO_51.out) hb)
                          have n1_ := Aside0.mk (blk_below (g := gb207) (o := .cells #[.int .u64 t203, .int .u64 t204] 30 (0, 0)) (by (with_reducible repeat (first | refine blk_drewN ?_ _ | refine blk_drew ?_ | refine blk_alloc ?_ _)); exact BK207.out) hb)
                          have n2_ := Aside0.mk (blk_below (g := gb208) (o := .cells #[.int .u64 t205, .int .u64 t206] 30 (0, 0)) (by (with_reducible repeat (first | refine blk_drewN ?_ _ | refine blk_drew ?_ | refine blk_alloc ?_ _)); exact BK208.out) hb)
                          have n3_ := Aside0.mk (blk_below (g := gb211) (o := .cells #[.int .u64 x212000_3, .int .u64 x212001_3] 30 (0, 0)) (by (with_reducible repeat (first | refine blk_drewN ?_ _ | refine blk_drew ?_ | refine blk_alloc ?_ _)); exact BK211.out) hb)
                          have n4_ := Aside0.mk (below_step (by repeat (first | (with_reducible first | exact HB.out | apply below_alloc | apply pw_below_drewN | apply below_drew1 | refine below_set ?_ GE207.out | refine below_set ?_ GE208.out | refine below_set ?_ GE211.out) | exact HB.out)) hb)
                          clear HO_51
                          clear BK207
                          clear BK208
                          clear BK211
                          clear HB
                          have HO_51 := n0_
                          have BK207 := n1_
                          have BK208 := n2_
                          have BK211 := n3_
                          have HB := n4_
                          clear n0_ n1_ n2_ n3_ n4_
                          (try clear hb)
                          (try clear hb2)
                          (try clear hk)
                          (try clear hi)
                          refine hK.out _ _ ⟨(blk_cell BK207.out 0).trans rfl, (blk_cell BK207.out 1).trans rfl, (blk_cell BK208.out 0).trans rfl, (blk_cell BK208.out 1).trans rfl⟩ (fun hHeld => ?_)
                          clear hK K
                          refine norm_ (a' := ?_) ?_ ?_
                          rotate_left
                          · show Act.put _ (some 69) _ = _
                            simp only [Act.put, List.setIfInBounds_toArray, List.set_cons_zero, List.set_cons_succ, i64_w, i32_w]
                            rfl
                          refine pure_ (i := 4) (N := some 70) (v := ?_) (a' := ?_) #[true, true, true, true, true, false, false, false, false, false, false] rfl rfl (any_of HT_.out (by kernel_rfl)) (fun _ _ _ h => h) (Or.inl ⟨by rfl, ?_⟩) ?_ ?_
                          rotate_left
                          · intro w'
                            go_simp
                            with_reducible rfl
                          rotate_left
                          · simp only [Act.put, List.setIfInBounds_toArray, List.set_cons_zero, List.set_cons_succ, i64_w, i32_w]
                            rfl
                          refine pure_ (i := 5) (N := some 71) (v := ?_) (a' := ?_) #[true, true, true, true, true, true, false, false, false, false, false] rfl rfl (any_of HT_.out (by kernel_rfl)) (fun _ _ _ h => h) (Or.inl ⟨by rfl, ?_⟩) ?_ ?_
                          rotate_left
                          · intro w'
                            go_simp
                            with_reducible rfl
                          rotate_left
                          · simp only [Act.put, List.setIfInBounds_toArray, List.set_cons_zero, List.set_cons_succ, i64_w, i32_w]
                            rfl
                          refine pure_ (i := 6) (N := some 72) (v := undef) (a' := ?_) #[true, true, true, true, true, true, true, false, false, false, false] rfl rfl (any_of HT_.out (by kernel_rfl)) (fun _ _ _ h => h) (Or.inr ⟨by rfl, rfl⟩) ?_ ?_
                          rotate_left
                          · simp only [Act.put, List.setIfInBounds_toArray, List.set_cons_zero, List.set_cons_succ, i64_w, i32_w]
                            rfl
                          refine pure_ (i := 7) (N := some 73) (v := undef) (a' := ?_) #[true, true, true, true, true, true, true, true, false, false, false] rfl rfl (any_of HT_.out (by kernel_rfl)) (fun _ _ _ h => h) (Or.inr ⟨by rfl, rfl⟩) ?_ ?_
                          rotate_left
                          · simp only [Act.put, List.setIfInBounds_toArray, List.set_cons_zero, List.set_cons_succ, i64_w, i32_w]
                            rfl
                          refine pure_ (i := 8) (N := some 74) (v := undef) (a' := ?_) #[true, true, true, true, true, true, true, true, true, false, false] rfl rfl (any_of HT_.out (by kernel_rfl)) (fun _ _ _ h => h) (Or.inr ⟨by rfl, rfl⟩) ?_ ?_
                          rotate_left
                          · simp only [Act.put, List.setIfInBounds_toArray, List.set_cons_zero, List.set_cons_succ, i64_w, i32_w]
                            rfl
                          refine pure_ (i := 9) (N := some 75) (v := ?_) (a' := ?_) #[true, true, true, true, true, true, true, true, true, true, false] rfl rfl (any_of HT_.out (by kernel_rfl)) (fun _ _ _ h => h) (Or.inl ⟨by rfl, ?_⟩) ?_ ?_
                          rotate_left
                          · intro w'
                            go_simp
                            with_reducible rfl
                          rotate_left
                          · simp only [Act.put, List.setIfInBounds_toArray, List.set_cons_zero, List.set_cons_succ, i64_w, i32_w]
                            rfl
                          refine pure_ (i := 10) (N := some 4) (v := ?_) (a' := ?_) #[true, true, true, true, true, true, true, true, true, true, true] rfl rfl (any_of HT_.out (by kernel_rfl)) (fun _ _ _ h => h) (Or.inl ⟨by rfl, ?_⟩) ?_ ?_
                          rotate_left
                          · intro w'
                            go_simp
                            with_reducible rfl
                          rotate_left
                          · simp only [Act.put, List.setIfInBounds_toArray, List.set_cons_zero, List.set_cons_succ, i64_w, i32_w]
                            rfl
                          refine done_ (done_of HT_.out (by kernel_rfl)) ?_
                          try go_wp2
                          go_ret
                          exact ⟨by first | rfl | (simp [errW_none, errW_some] <;> rfl) | (simp [*, errW_none, errW_some] <;> rfl) | (simp [*, errW_none, errW_some]; generalize ByteArray.toList _ = q_; cases q_ <;> rfl), by repeat (first | (with_reducible first | exact HB.out | apply below_alloc | apply pw_below_drewN | apply below_drew1 | refine below_set ?_ GE207.out | refine below_set ?_ GE208.out | refine below_set ?_ GE211.out) | exact HB.out)⟩
  · replace c4 := Bool.eq_false_iff.mpr c4
    subst c4
    have H1 : (some false) = some r := by rw [if_neg (show ¬ (false = true) by decide)] at H; exact H
    clear H
    have H := H1
    clear H1
    obtain rfl := Option.some.inj H
    go_enter Try.func4, Try.ntmps4
    go_wp2_with (first | ((with_reducible refine gate_callee (f := 9) rfl ?_); refine goesL_ (some 11) rfl rfl Try.func9 (by kernel_rfl) rfl #[] rfl (by (try simp only [List.map_toArray, List.map_cons, List.map_nil]); first | done | rfl | (simp only [List.length_drop, List.length_take]; rfl)) ?_; (with_reducible refine (kakugyolaw03_steps.calls k  false _ A3.out).mono ?_); rintro e w80 ⟨rfl, hb⟩; refine ⟨_, rfl, ?_⟩; have n0_ := Aside0.mk (below_step (by repeat (first | (with_reducible first | exact HB.out | apply below_alloc | apply pw_below_drewN | apply below_drew1) | exact HB.out)) hb); clear HB; have HB := n0_; clear n0_; (try clear hb); (try clear hb2); (try clear hk); (try clear hi)))
    go_ret
    exact ⟨by first | rfl | (simp [errW_none, errW_some] <;> rfl) | (simp [*, errW_none, errW_some] <;> rfl) | (simp [*, errW_none, errW_some]; generalize ByteArray.toList _ = q_; cases q_ <;> rfl), by repeat (first | (with_reducible first | exact HB.out | apply below_alloc | apply pw_below_drewN | apply below_drew1) | exact HB.out)⟩

/-- THE ONE PURE STATEMENT of kakugyolaw03_StepTurns: yours. -/
def kakugyolaw03_StepTurns.Pure : Prop := ∀ (a0 : Int) (a1 : Int), (Lit.int .i64 a0).wf = true → (Lit.int .i64 a1).wf = true → ∃ k, kakugyolaw03_StepTurns.f k a0 a1 = some true
theorem kakugyolaw03_StepTurns.walk (P : kakugyolaw03_StepTurns.Pure) (a0 : Int) (a1 : Int) (w : World) (w0 : (Lit.int .i64 a0).wf = true) (w1 : (Lit.int .i64 a1).wf = true) :
    Calls Try.prog 4 #[.int .i64 a0, .int .i64 a1] w fun e w' => e = .returned (.bool true) ∧ Below w.heap.size w w' := by
  obtain ⟨k, h⟩ := P a0 a1 w0 w1
  refine (kakugyolaw03_StepTurns.calls k a0 a1 true w h).mono ?_
  rintro e w' ⟨rfl, hd⟩
  exact ⟨rfl, hd⟩

end Go.Proofs.Ytmoeodcmfjnihaa.Pa
