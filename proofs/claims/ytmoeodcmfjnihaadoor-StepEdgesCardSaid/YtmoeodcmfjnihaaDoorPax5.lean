-- Printed by a program of this session: the kit's printer, with contracts of this session's own among its functions.
import Derived.Test.YtmoeodcmfjnihaaDoorPax0
import Derived.Test.YtmoeodcmfjnihaaDoorPax1
import Derived.Test.YtmoeodcmfjnihaaDoorPax2
import Derived.Test.YtmoeodcmfjnihaaDoorPax3
namespace Go.Proofs.YtmoeodcmfjnihaaDoor.Pa
open Go.RowKit Go.Proofs.YtmoeodcmfjnihaaDoorW.PrintWords Go.Proofs.YtmoeodcmfjnihaaDoorW.PrintLast Go.Proofs.YtmoeodcmfjnihaaDoorW.PrintMore
attribute [local go_sem] max2_int min2_int max_two min_two max_three min_three max_four min_four   -- for this text's walks alone
set_option linter.unusedVariables false
set_option linter.unusedSimpArgs false

attribute [local go_sem high] eqA26
/-! ### set_File: function 21 -/
def set_File.f (a0 : Int) : Option (Int) := some (wrap64 (Int.tdiv a0 9))
set_option maxHeartbeats 8000000 in
set_option maxRecDepth 100000 in
theorem set_File.calls (a0 : Int) (r : Int) (w : World) (h : set_File.f a0 = some r) :
    Calls Tryd.prog 21 #[.int .i64 a0] w fun e w' => e = .returned (.int .i64 r) ∧ Drawn0 w w' := by
  have H : (some (wrap64 (Int.tdiv a0 9))) = some r := h
  clear h
  obtain rfl := Option.some.inj H
  go_enter Tryd.func21, Tryd.ntmps21
  go_wp2
  go_ret
  exact ⟨by first | rfl | (simp; done) | (simp [*]; done), by repeat (first | exact Drawn0.refl _ | apply Drawn0.step)⟩

/-! ### set_Rank: function 22 -/
def set_Rank.f (a0 : Int) : Option (Int) := some (Int.tmod a0 9)
set_option maxHeartbeats 8000000 in
set_option maxRecDepth 100000 in
theorem set_Rank.calls (a0 : Int) (r : Int) (w : World) (h : set_Rank.f a0 = some r) :
    Calls Tryd.prog 22 #[.int .i64 a0] w fun e w' => e = .returned (.int .i64 r) ∧ Drawn0 w w' := by
  have H : (some (Int.tmod a0 9)) = some r := h
  clear h
  obtain rfl := Option.some.inj H
  go_enter Tryd.func22, Tryd.ntmps22
  go_wp2
  go_ret
  exact ⟨by first | rfl | (simp; done) | (simp [*]; done), by repeat (first | exact Drawn0.refl _ | apply Drawn0.step)⟩

/-! ### kakugyolaw01_SetSquares: function 5 -/
def kakugyolaw01_SetSquares.j0 : Nat → Int → Int → Int → Bool → Option (Bool)
  | 0, _, _, _, _ => none
  | k + 1, x0, x1, x5, x24 => if x24 = true then (some (x5 == (-1))) else (if x5 = (wrap64 ((wrap64 (9 * x0)) + x1)) then ((set_File.f x5).bind fun t205 => (if t205 = x0 then ((set_Rank.f x5).bind fun t206 => (if t206 = x1 then ((set_InFile.f k x0).bind fun bt207 => ((set_Set_Has.f k bt207.1 bt207.2 x5).bind fun t209 => (if t209 = true then ((set_InRank.f k x1).bind fun bt210 => ((set_Set_Has.f k bt210.1 bt210.2 x5).bind fun t212 => (if t212 = true then ((set_InFile.f k x0).bind fun bt213 => ((set_InRank.f k x1).bind fun bt215 => ((set_Set_And.f bt213.1 bt213.2 bt215.1 bt215.2).bind fun bt217 => ((set_Of.f k (([x5] : List Int))).bind fun bt222 => (some (bt217.1 == bt222.1 && (bt217.2 == bt222.2))))))) else (some false)))) else (some false)))) else (some false))) else (some false))) else (some false))
def kakugyolaw01_SetSquares.f (k : Nat) (a0 : Int) (a1 : Int) : Option (Bool) := (kakugyolaw01_holds.f k).bind fun t203 => (if t203 = true then ((set_Square.f a0 a1).bind fun t204 => (if a0 < 0 then (kakugyolaw01_SetSquares.j0 k a0 a1 t204 true) else (if a0 > 8 then (kakugyolaw01_SetSquares.j0 k a0 a1 t204 true) else (if a1 < 0 then (kakugyolaw01_SetSquares.j0 k a0 a1 t204 true) else (kakugyolaw01_SetSquares.j0 k a0 a1 t204 (decide (a1 > 8))))))) else (some false))
theorem kakugyolaw01_SetSquares.mono_l : ∀ k, (∀ y0 y1 y2 y3, LeO (kakugyolaw01_SetSquares.j0 k y0 y1 y2 y3) (kakugyolaw01_SetSquares.j0 (k + 1) y0 y1 y2 y3))
  | 0 => fun _ _ _ _ r h => by simp [kakugyolaw01_SetSquares.j0] at h
  | k + 1 => by
    have ih0 := kakugyolaw01_SetSquares.mono_l k
    · intro y0 y1 y2 y3
      unfold kakugyolaw01_SetSquares.j0
      repeat' first
      | (with_reducible exact ih0 _ _ _ _)
      | (with_reducible exact kakugyolaw01_holds.mono _)
      | (with_reducible exact set_InFile.mono _ _)
      | (with_reducible exact set_InRank.mono _ _)
      | (with_reducible exact set_Of.mono _ _)
      | (with_reducible exact set_Set_Has.mono _ _ _ _)
      | (with_reducible exact LeO.refl _)
      | (with_reducible exact LeO.none _)
      | (with_reducible refine LeO.ite ?_ ?_)
      | (with_reducible refine LeO.bind ?_ (fun _ => ?_))
      | exact ih0 _ _ _ _
      | exact kakugyolaw01_holds.mono _
      | exact set_InFile.mono _ _
      | exact set_InRank.mono _ _
      | exact set_Of.mono _ _
      | exact set_Set_Has.mono _ _ _ _
      | exact LeO.none _
      | refine LeO.ite ?_ ?_
      | refine LeO.bind ?_ (fun _ => ?_)
theorem kakugyolaw01_SetSquares.mono : ∀ a0 a1 k, LeO (kakugyolaw01_SetSquares.f k a0 a1) (kakugyolaw01_SetSquares.f (k + 1) a0 a1) := by
  intro a0 a1 k
  have ih0 := kakugyolaw01_SetSquares.mono_l k
  unfold kakugyolaw01_SetSquares.f
  repeat' first
      | (with_reducible exact ih0 _ _ _ _)
      | (with_reducible exact kakugyolaw01_holds.mono _)
      | (with_reducible exact set_InFile.mono _ _)
      | (with_reducible exact set_InRank.mono _ _)
      | (with_reducible exact set_Of.mono _ _)
      | (with_reducible exact set_Set_Has.mono _ _ _ _)
      | (with_reducible exact LeO.refl _)
      | (with_reducible exact LeO.none _)
      | (with_reducible refine LeO.ite ?_ ?_)
      | (with_reducible refine LeO.bind ?_ (fun _ => ?_))
      | exact ih0 _ _ _ _
      | exact kakugyolaw01_holds.mono _
      | exact set_InFile.mono _ _
      | exact set_InRank.mono _ _
      | exact set_Of.mono _ _
      | exact set_Set_Has.mono _ _ _ _
      | exact LeO.none _
      | refine LeO.ite ?_ ?_
      | refine LeO.bind ?_ (fun _ => ?_)
set_option maxHeartbeats 8000000 in
set_option maxRecDepth 100000 in
theorem kakugyolaw01_SetSquares.calls (k : Nat) (a0 : Int) (a1 : Int) (r : Bool) (w : World) (hT : bits_TrailingZeros64.Tab w) (h : kakugyolaw01_SetSquares.f k a0 a1 = some r) :
    Calls Tryd.prog 5 #[.int .i64 a0, .int .i64 a1] w fun e w' => e = .returned (.bool r) ∧ Below w.heap.size w w' := by
  have HB := Aside0.mk (Below.refl w.heap.size w)
  have H : ((kakugyolaw01_holds.f k).bind fun t203 => (if t203 = true then ((set_Square.f a0 a1).bind fun t204 => (if a0 < 0 then (kakugyolaw01_SetSquares.j0 k a0 a1 t204 true) else (if a0 > 8 then (kakugyolaw01_SetSquares.j0 k a0 a1 t204 true) else (if a1 < 0 then (kakugyolaw01_SetSquares.j0 k a0 a1 t204 true) else (kakugyolaw01_SetSquares.j0 k a0 a1 t204 (decide (a1 > 8))))))) else (some false))) = some r := h
  clear h
  replace H := Option.bind_eq_some_iff.mp H
  obtain ⟨t203, A30, H⟩ := H
  replace H : (if t203 = true then ((set_Square.f a0 a1).bind fun t204 => (if a0 < 0 then (kakugyolaw01_SetSquares.j0 k a0 a1 t204 true) else (if a0 > 8 then (kakugyolaw01_SetSquares.j0 k a0 a1 t204 true) else (if a1 < 0 then (kakugyolaw01_SetSquares.j0 k a0 a1 t204 true) else (kakugyolaw01_SetSquares.j0 k a0 a1 t204 (decide (a1 > 8))))))) else (some false)) = some r := H
  have A3 := Aside0.mk A30
  clear A30
  by_cases c4 : t203 = true
  · subst c4
    have H1 : ((set_Square.f a0 a1).bind fun t204 => (if a0 < 0 then (kakugyolaw01_SetSquares.j0 k a0 a1 t204 true) else (if a0 > 8 then (kakugyolaw01_SetSquares.j0 k a0 a1 t204 true) else (if a1 < 0 then (kakugyolaw01_SetSquares.j0 k a0 a1 t204 true) else (kakugyolaw01_SetSquares.j0 k a0 a1 t204 (decide (a1 > 8))))))) = some r := by rw [if_pos rfl] at H; exact H
    clear H
    have H := H1
    clear H1
    replace H := Option.bind_eq_some_iff.mp H
    obtain ⟨t204, A50, H⟩ := H
    replace H : (if a0 < 0 then (kakugyolaw01_SetSquares.j0 k a0 a1 t204 true) else (if a0 > 8 then (kakugyolaw01_SetSquares.j0 k a0 a1 t204 true) else (if a1 < 0 then (kakugyolaw01_SetSquares.j0 k a0 a1 t204 true) else (kakugyolaw01_SetSquares.j0 k a0 a1 t204 (decide (a1 > 8)))))) = some r := H
    have A5 := Aside0.mk A50
    clear A50
    have HC6 := Aside0.mk H
    clear H
    go_enter Tryd.func5, Tryd.ntmps5
    go_upto_region 4 with (first | ((with_reducible refine gate_callee (f := 7) rfl ?_); refine goesL_ (some 6) rfl rfl Tryd.func7 (by kernel_rfl) rfl #[] rfl (by (try simp only [List.map_toArray, List.map_cons, List.map_nil]); first | done | rfl | (simp only [List.length_drop, List.length_take]; rfl)) ?_; (with_reducible refine (kakugyolaw01_holds.calls k  true _ (by exact hT.below (by repeat (first | (with_reducible first | exact HB.out | apply below_alloc | apply pw_below_drewN | apply below_drew1) | exact HB.out))) A3.out).mono ?_); rintro e w7 ⟨rfl, hb⟩; refine ⟨_, rfl, ?_⟩; have n0_ := Aside0.mk (below_step (by repeat (first | (with_reducible first | exact HB.out | apply below_alloc | apply pw_below_drewN | apply below_drew1) | exact HB.out)) hb); clear HB; have HB := n0_; clear n0_; (try clear hb); (try clear hb2); (try clear hk); (try clear hi)) | ((with_reducible refine gate_callee (f := 20) rfl ?_); refine goesL_ (some 10) rfl rfl Tryd.func20 (by kernel_rfl) rfl #[.int .i64 a0, .int .i64 a1] rfl (by (try simp only [List.map_toArray, List.map_cons, List.map_nil]); first | done | rfl | (simp only [List.length_drop, List.length_take]; rfl)) ?_; (with_reducible refine (set_Square.calls a0 a1 t204 _ A5.out).mono ?_); rintro e w' ⟨rfl, ⟨nd, rfl⟩⟩; refine ⟨_, rfl, ?_⟩))
    (try simp only [Act.put, List.setIfInBounds_toArray, List.set_cons_zero, List.set_cons_succ])
    go_cut [24] (fun v24 wc => ∃ (kq : Nat) (x24_5 : Bool), v24 = .bool x24_5 ∧ Aside0 (kakugyolaw01_SetSquares.j0 kq a0 a1 t204 x24_5 = some r) ∧ Aside0 (kq ≤ k) ∧ Aside0 (Below w.heap.size w wc))
    case first =>
      have H := HC6.out
      clear HC6
      by_cases c8 : a0 < 0
      · rw [if_pos c8] at H
        have c8b0 : decide (a0 < 0) = true := decide_eq_true c8
        clear c8
        (first | rw [c8b0] | (simp only [i64_w, i32_w]; rw [c8b0]) | skip)
        have H' := Aside0.mk H
        clear H
        go_wp2
        go_meet
        case rel => exact ⟨_, (true), (by first | rfl | (simp; done) | (simp [*]; done)), H', ⟨by first | omega | exact Nat.le_refl _⟩, ⟨by repeat (first | (with_reducible first | exact HB.out | apply below_alloc | apply pw_below_drewN | apply below_drew1) | exact HB.out)⟩⟩
      · rw [if_neg c8] at H
        have c8b0 : decide (a0 < 0) = false := decide_eq_false c8
        clear c8
        (first | rw [c8b0] | (simp only [i64_w, i32_w]; rw [c8b0]) | skip)
        by_cases c9 : a0 > 8
        · rw [if_pos c9] at H
          have c9b0 : decide (8 < a0) = true := decide_eq_true c9
          clear c9
          have H' := Aside0.mk H
          clear H
          go_wp2
          go_meet
          case rel => exact ⟨_, (true), (by first | rfl | (simp; done) | (simp [*]; done)), H', ⟨by first | omega | exact Nat.le_refl _⟩, ⟨by repeat (first | (with_reducible first | exact HB.out | apply below_alloc | apply pw_below_drewN | apply below_drew1) | exact HB.out)⟩⟩
        · rw [if_neg c9] at H
          have c9b0 : decide (8 < a0) = false := decide_eq_false c9
          clear c9
          by_cases c10 : a1 < 0
          · rw [if_pos c10] at H
            have c10b0 : decide (a1 < 0) = true := decide_eq_true c10
            clear c10
            have H' := Aside0.mk H
            clear H
            go_wp2
            go_meet
            case rel => exact ⟨_, (true), (by first | rfl | (simp; done) | (simp [*]; done)), H', ⟨by first | omega | exact Nat.le_refl _⟩, ⟨by repeat (first | (with_reducible first | exact HB.out | apply below_alloc | apply pw_below_drewN | apply below_drew1) | exact HB.out)⟩⟩
          · rw [if_neg c10] at H
            have c10b0 : decide (a1 < 0) = false := decide_eq_false c10
            clear c10
            have H' := Aside0.mk H
            clear H
            go_wp2
            go_meet
            case rel => exact ⟨_, (decide (a1 > 8)), (by first | rfl | (simp; done) | (simp [*]; done)), H', ⟨by first | omega | exact Nat.le_refl _⟩, ⟨by repeat (first | (with_reducible first | exact HB.out | apply below_alloc | apply pw_below_drewN | apply below_drew1) | exact HB.out)⟩⟩
    case rest =>
      clear HC6
      try clear c1
      try clear c2
      try clear p2
      try clear c4
      try clear c5
      try clear c7
      try clear c8
      try clear c8b0
      try clear c9
      try clear c9b0
      try clear c10
      try clear c10b0
      obtain ⟨kq, x24_5, rfl, HA, HJ5, HB⟩ := hcut
      cases kq with
      | zero => exact absurd HA.out (by simp [kakugyolaw01_SetSquares.j0])
      | succ kj5 =>
        have H := HA.out
        clear HA
        simp only [kakugyolaw01_SetSquares.j0] at H
        by_cases c11 : x24_5 = true
        · subst c11
          have H1 : (some (t204 == (-1))) = some r := by rw [if_pos rfl] at H; exact H
          clear H
          have H := H1
          clear H1
          obtain rfl := Option.some.inj H
          go_wp2
          go_ret
          exact ⟨by first | rfl | (simp [errW_none, errW_some] <;> rfl) | (simp [*, errW_none, errW_some] <;> rfl) | (simp [*, errW_none, errW_some]; generalize ByteArray.toList _ = q_; cases q_ <;> rfl), by repeat (first | (with_reducible first | exact HB.out | apply below_alloc | apply pw_below_drewN | apply below_drew1) | exact HB.out)⟩
        · replace c11 := Bool.eq_false_iff.mpr c11
          subst c11
          have H1 : (if t204 = (wrap64 ((wrap64 (9 * a0)) + a1)) then ((set_File.f t204).bind fun t205 => (if t205 = a0 then ((set_Rank.f t204).bind fun t206 => (if t206 = a1 then ((set_InFile.f kj5 a0).bind fun bt207 => ((set_Set_Has.f kj5 bt207.1 bt207.2 t204).bind fun t209 => (if t209 = true then ((set_InRank.f kj5 a1).bind fun bt210 => ((set_Set_Has.f kj5 bt210.1 bt210.2 t204).bind fun t212 => (if t212 = true then ((set_InFile.f kj5 a0).bind fun bt213 => ((set_InRank.f kj5 a1).bind fun bt215 => ((set_Set_And.f bt213.1 bt213.2 bt215.1 bt215.2).bind fun bt217 => ((set_Of.f kj5 (([t204] : List Int))).bind fun bt222 => (some (bt217.1 == bt222.1 && (bt217.2 == bt222.2))))))) else (some false)))) else (some false)))) else (some false))) else (some false))) else (some false)) = some r := by rw [if_neg (show ¬ (false = true) by decide)] at H; exact H
          clear H
          have H := H1
          clear H1
          by_cases c12 : t204 = (wrap64 ((wrap64 (9 * a0)) + a1))
          · rw [if_pos c12] at H
            have c12b0 : (t204 == (wrap64 ((wrap64 (9 * a0)) + a1))) = true := beq_iff_eq.mpr c12
            have c12b1 : (t204 != (wrap64 ((wrap64 (9 * a0)) + a1))) = false := bne_eq_false_iff_eq.mpr c12
            clear c12
            replace H := Option.bind_eq_some_iff.mp H
            obtain ⟨t205, A130, H⟩ := H
            replace H : (if t205 = a0 then ((set_Rank.f t204).bind fun t206 => (if t206 = a1 then ((set_InFile.f kj5 a0).bind fun bt207 => ((set_Set_Has.f kj5 bt207.1 bt207.2 t204).bind fun t209 => (if t209 = true then ((set_InRank.f kj5 a1).bind fun bt210 => ((set_Set_Has.f kj5 bt210.1 bt210.2 t204).bind fun t212 => (if t212 = true then ((set_InFile.f kj5 a0).bind fun bt213 => ((set_InRank.f kj5 a1).bind fun bt215 => ((set_Set_And.f bt213.1 bt213.2 bt215.1 bt215.2).bind fun bt217 => ((set_Of.f kj5 (([t204] : List Int))).bind fun bt222 => (some (bt217.1 == bt222.1 && (bt217.2 == bt222.2))))))) else (some false)))) else (some false)))) else (some false))) else (some false)) = some r := H
            have A13 := Aside0.mk A130
            clear A130
            by_cases c14 : t205 = a0
            · rw [if_pos c14] at H
              have c14b0 : (t205 == a0) = true := beq_iff_eq.mpr c14
              have c14b1 : (t205 != a0) = false := bne_eq_false_iff_eq.mpr c14
              clear c14
              replace H := Option.bind_eq_some_iff.mp H
              obtain ⟨t206, A150, H⟩ := H
              replace H : (if t206 = a1 then ((set_InFile.f kj5 a0).bind fun bt207 => ((set_Set_Has.f kj5 bt207.1 bt207.2 t204).bind fun t209 => (if t209 = true then ((set_InRank.f kj5 a1).bind fun bt210 => ((set_Set_Has.f kj5 bt210.1 bt210.2 t204).bind fun t212 => (if t212 = true then ((set_InFile.f kj5 a0).bind fun bt213 => ((set_InRank.f kj5 a1).bind fun bt215 => ((set_Set_And.f bt213.1 bt213.2 bt215.1 bt215.2).bind fun bt217 => ((set_Of.f kj5 (([t204] : List Int))).bind fun bt222 => (some (bt217.1 == bt222.1 && (bt217.2 == bt222.2))))))) else (some false)))) else (some false)))) else (some false)) = some r := H
              have A15 := Aside0.mk A150
              clear A150
              by_cases c16 : t206 = a1
              · rw [if_pos c16] at H
                have c16b0 : (t206 == a1) = true := beq_iff_eq.mpr c16
                have c16b1 : (t206 != a1) = false := bne_eq_false_iff_eq.mpr c16
                clear c16
                replace H := Option.bind_eq_some_iff.mp H
                obtain ⟨⟨t207, t208⟩, A170, H⟩ := H
                replace H : ((set_Set_Has.f kj5 t207 t208 t204).bind fun t209 => (if t209 = true then ((set_InRank.f kj5 a1).bind fun bt210 => ((set_Set_Has.f kj5 bt210.1 bt210.2 t204).bind fun t212 => (if t212 = true then ((set_InFile.f kj5 a0).bind fun bt213 => ((set_InRank.f kj5 a1).bind fun bt215 => ((set_Set_And.f bt213.1 bt213.2 bt215.1 bt215.2).bind fun bt217 => ((set_Of.f kj5 (([t204] : List Int))).bind fun bt222 => (some (bt217.1 == bt222.1 && (bt217.2 == bt222.2))))))) else (some false)))) else (some false))) = some r := H
                have A17 := Aside0.mk A170
                clear A170
                replace H := Option.bind_eq_some_iff.mp H
                obtain ⟨t209, A180, H⟩ := H
                replace H : (if t209 = true then ((set_InRank.f kj5 a1).bind fun bt210 => ((set_Set_Has.f kj5 bt210.1 bt210.2 t204).bind fun t212 => (if t212 = true then ((set_InFile.f kj5 a0).bind fun bt213 => ((set_InRank.f kj5 a1).bind fun bt215 => ((set_Set_And.f bt213.1 bt213.2 bt215.1 bt215.2).bind fun bt217 => ((set_Of.f kj5 (([t204] : List Int))).bind fun bt222 => (some (bt217.1 == bt222.1 && (bt217.2 == bt222.2))))))) else (some false)))) else (some false)) = some r := H
                have A18 := Aside0.mk A180
                clear A180
                by_cases c19 : t209 = true
                · subst c19
                  have H1 : ((set_InRank.f kj5 a1).bind fun bt210 => ((set_Set_Has.f kj5 bt210.1 bt210.2 t204).bind fun t212 => (if t212 = true then ((set_InFile.f kj5 a0).bind fun bt213 => ((set_InRank.f kj5 a1).bind fun bt215 => ((set_Set_And.f bt213.1 bt213.2 bt215.1 bt215.2).bind fun bt217 => ((set_Of.f kj5 (([t204] : List Int))).bind fun bt222 => (some (bt217.1 == bt222.1 && (bt217.2 == bt222.2))))))) else (some false)))) = some r := by rw [if_pos rfl] at H; exact H
                  clear H
                  have H := H1
                  clear H1
                  replace H := Option.bind_eq_some_iff.mp H
                  obtain ⟨⟨t210, t211⟩, A200, H⟩ := H
                  replace H : ((set_Set_Has.f kj5 t210 t211 t204).bind fun t212 => (if t212 = true then ((set_InFile.f kj5 a0).bind fun bt213 => ((set_InRank.f kj5 a1).bind fun bt215 => ((set_Set_And.f bt213.1 bt213.2 bt215.1 bt215.2).bind fun bt217 => ((set_Of.f kj5 (([t204] : List Int))).bind fun bt222 => (some (bt217.1 == bt222.1 && (bt217.2 == bt222.2))))))) else (some false))) = some r := H
                  have A20 := Aside0.mk A200
                  clear A200
                  replace H := Option.bind_eq_some_iff.mp H
                  obtain ⟨t212, A210, H⟩ := H
                  replace H : (if t212 = true then ((set_InFile.f kj5 a0).bind fun bt213 => ((set_InRank.f kj5 a1).bind fun bt215 => ((set_Set_And.f bt213.1 bt213.2 bt215.1 bt215.2).bind fun bt217 => ((set_Of.f kj5 (([t204] : List Int))).bind fun bt222 => (some (bt217.1 == bt222.1 && (bt217.2 == bt222.2))))))) else (some false)) = some r := H
                  have A21 := Aside0.mk A210
                  clear A210
                  by_cases c22 : t212 = true
                  · subst c22
                    have H1 : ((set_InFile.f kj5 a0).bind fun bt213 => ((set_InRank.f kj5 a1).bind fun bt215 => ((set_Set_And.f bt213.1 bt213.2 bt215.1 bt215.2).bind fun bt217 => ((set_Of.f kj5 (([t204] : List Int))).bind fun bt222 => (some (bt217.1 == bt222.1 && (bt217.2 == bt222.2))))))) = some r := by rw [if_pos rfl] at H; exact H
                    clear H
                    have H := H1
                    clear H1
                    replace H := Option.bind_eq_some_iff.mp H
                    obtain ⟨⟨t213, t214⟩, A230, H⟩ := H
                    replace H : ((set_InRank.f kj5 a1).bind fun bt215 => ((set_Set_And.f t213 t214 bt215.1 bt215.2).bind fun bt217 => ((set_Of.f kj5 (([t204] : List Int))).bind fun bt222 => (some (bt217.1 == bt222.1 && (bt217.2 == bt222.2)))))) = some r := H
                    have A23 := Aside0.mk A230
                    clear A230
                    replace H := Option.bind_eq_some_iff.mp H
                    obtain ⟨⟨t215, t216⟩, A240, H⟩ := H
                    replace H : ((set_Set_And.f t213 t214 t215 t216).bind fun bt217 => ((set_Of.f kj5 (([t204] : List Int))).bind fun bt222 => (some (bt217.1 == bt222.1 && (bt217.2 == bt222.2))))) = some r := H
                    have A24 := Aside0.mk A240
                    clear A240
                    replace H := Option.bind_eq_some_iff.mp H
                    obtain ⟨⟨t217, t218⟩, A250, H⟩ := H
                    replace H : ((set_Of.f kj5 (([t204] : List Int))).bind fun bt222 => (some (t217 == bt222.1 && (t218 == bt222.2)))) = some r := H
                    have A25 := Aside0.mk A250
                    clear A250
                    obtain ⟨y219, hy219⟩ : ∃ y_ : List Int, y_ = (([t204] : List Int)) := ⟨_, rfl⟩
                    replace H : ((set_Of.f kj5 y219).bind fun bt222 => (some (t217 == bt222.1 && (t218 == bt222.2)))) = some r := by first | (rw [hy219]; with_reducible exact H) | (have H2_ := (Option.bind_some _ _).symm.trans H; rw [hy219]; with_reducible exact H2_) | (have H2_ := (Option.bind_some _ _).symm.trans H; with_reducible exact H2_) | with_reducible exact H | (rw [hy219]; exact H) | exact H
                    have Ny219 := Aside0.mk hy219
                    clear hy219
                    replace H := Option.bind_eq_some_iff.mp H
                    obtain ⟨⟨t222, t223⟩, A260, H⟩ := H
                    replace H : (some (t217 == t222 && (t218 == t223))) = some r := H
                    have A26 := Aside0.mk A260
                    clear A260
                    obtain rfl := Option.some.inj H
                    have eA23 : t213 = t207 ∧ t214 = t208 := by have e_ := A23.out.symm.trans A17.out; simp only [Option.some.injEq, Prod.mk.injEq] at e_; exact e_
                    have eA24 : t215 = t210 ∧ t216 = t211 := by have e_ := A24.out.symm.trans A20.out; simp only [Option.some.injEq, Prod.mk.injEq] at e_; exact e_
                    replace A25 : Aside0 (set_Set_And.f t207 t208 t210 t211 = some (t217, t218)) := ⟨by have h_ := A25.out; rw [eA23.1, eA23.2, eA24.1, eA24.2] at h_; exact h_⟩
                    go_wp2_with (first | (go_at_call 21; (with_reducible refine (set_File.calls t204 t205 _ A13.out).mono ?_); rintro e w' ⟨rfl, ⟨nd, rfl⟩⟩) | (go_at_call 22; (with_reducible refine (set_Rank.calls t204 t206 _ A15.out).mono ?_); rintro e w' ⟨rfl, ⟨nd, rfl⟩⟩) | (go_at_call 13; (with_reducible refine (set_InFile.calls kj5 a0 t207 t208 _ A17.out).mono ?_); rintro e w27 ⟨rfl, hb⟩; have n0_ := Aside0.mk (below_step (by repeat (first | (with_reducible first | exact HB.out | apply below_alloc | apply pw_below_drewN | apply below_drew1) | exact HB.out)) hb); clear HB; have HB := n0_; clear n0_; (try clear hb); (try clear hb2); (try clear hk); (try clear hi)) | (go_at_call 12; (with_reducible refine (set_Set_Has.calls kj5 t207 t208 t204 true _ A18.out).mono ?_); rintro e w28 ⟨rfl, hb⟩; have n0_ := Aside0.mk (below_step (by repeat (first | (with_reducible first | exact HB.out | apply below_alloc | apply pw_below_drewN | apply below_drew1) | exact HB.out)) hb); clear HB; have HB := n0_; clear n0_; (try clear hb); (try clear hb2); (try clear hk); (try clear hi)) | (go_at_call 15; (with_reducible refine (set_InRank.calls kj5 a1 t210 t211 _ A20.out).mono ?_); rintro e w29 ⟨rfl, hb⟩; have n0_ := Aside0.mk (below_step (by repeat (first | (with_reducible first | exact HB.out | apply below_alloc | apply pw_below_drewN | apply below_drew1) | exact HB.out)) hb); clear HB; have HB := n0_; clear n0_; (try clear hb); (try clear hb2); (try clear hk); (try clear hi)) | (go_at_call 12; (with_reducible refine (set_Set_Has.calls kj5 t210 t211 t204 true _ A21.out).mono ?_); rintro e w30 ⟨rfl, hb⟩; have n0_ := Aside0.mk (below_step (by repeat (first | (with_reducible first | exact HB.out | apply below_alloc | apply pw_below_drewN | apply below_drew1) | exact HB.out)) hb); clear HB; have HB := n0_; clear n0_; (try clear hb); (try clear hb2); (try clear hk); (try clear hi)) | (go_at_call 13; (with_reducible refine (set_InFile.calls kj5 a0 t207 t208 _ A23.out).mono ?_); rintro e w31 ⟨rfl, hb⟩; have n0_ := Aside0.mk (below_step (by repeat (first | (with_reducible first | exact HB.out | apply below_alloc | apply pw_below_drewN | apply below_drew1) | exact HB.out)) hb); clear HB; have HB := n0_; clear n0_; (try clear hb); (try clear hb2); (try clear hk); (try clear hi)) | (go_at_call 15; (with_reducible refine (set_InRank.calls kj5 a1 t210 t211 _ A24.out).mono ?_); rintro e w32 ⟨rfl, hb⟩; have n0_ := Aside0.mk (below_step (by repeat (first | (with_reducible first | exact HB.out | apply below_alloc | apply pw_below_drewN | apply below_drew1) | exact HB.out)) hb); clear HB; have HB := n0_; clear n0_; (try clear hb); (try clear hb2); (try clear hk); (try clear hi)) | (go_at_call 16; (with_reducible refine (set_Set_And.calls t207 t208 t210 t211 t217 t218 _ A25.out).mono ?_); rintro e w33 ⟨rfl, hb⟩; have n0_ := Aside0.mk (below_step (by repeat (first | (with_reducible first | exact HB.out | apply below_alloc | apply pw_below_drewN | apply below_drew1) | exact HB.out)) hb); clear HB; have HB := n0_; clear n0_; (try clear hb); (try clear hb2); (try clear hk); (try clear hi)) | ((with_reducible refine gate_dst (N := 64) rfl ?_); (try (refine gate_guard (by rfl) ?_; dsimp only)); refine Kd.R_lit (Kd.int .i64) _ 3 ?hg (N := 64) ?hd (xs := ([t204] : List Int)) (inner := [.int .i64 t204]) (ok := fun _ => True) (okp := fun _ => True) ?hr ?hp (fun _ hk => hk) trivial (Below.refl _ _) (Nat.le_refl _) (by simp) ?_; (case hd => rfl); (case hg => rfl); (case hr => first | (go_simp; done) | (go_simp; rfl)); (case hp => exact (Reps.one (show Kd.M (Kd.int .i64) _ _ _ t204 [.int .i64 t204] from rfl) (Reps.none _ _))); intro v220 w34 ho35 hb hg_ hnew_; clear hg_ hnew_; (first | rw [← Ny219.out] at ho35 | (simp only [Int.reduceToNat] at ho35; rw [← Ny219.out] at ho35)); have n0_ := Aside0.mk (Kd.R_lower ho35 (below_size (by repeat (first | (with_reducible first | exact HB.out | apply below_alloc | apply pw_below_drewN | apply below_drew1) | exact HB.out)))); have n1_ := Aside0.mk (below_step (by repeat (first | (with_reducible first | exact HB.out | apply below_alloc | apply pw_below_drewN | apply below_drew1) | exact HB.out)) hb); clear HB; have HO221 := n0_; have HB := n1_; clear n0_ n1_; clear hb ho35; obtain ⟨Ao36, co36, eo36⟩ := Kd.R_slice HO221.out; subst eo36) | (go_at_call 8; (with_reducible refine (set_Of.calls kj5 _ _ y219 t222 t223 _ ?side1 ?side2 A26.out).mono ?_); (case side1 => repeat (first | exact (Kd.R_reads' HO221.out).2.2 | (with_reducible refine Kd.C_alloc ?_ _) | (with_reducible refine Kd.C_drewN ?_ _) | (with_reducible refine Kd.C_drew ?_))); (case side2 => exact (Kd.R_reads' HO221.out).2.1); rintro e w37 ⟨rfl, hb⟩; have n0_ := Aside0.mk (Kd.R_below (by (with_reducible repeat (first | apply Kd.R_alloc | apply Kd.R_drewN | apply Kd.R_drew)); exact HO221.out) hb); have n1_ := Aside0.mk (below_step (by repeat (first | (with_reducible first | exact HB.out | apply below_alloc | apply pw_below_drewN | apply below_drew1) | exact HB.out)) hb); clear HO221; clear HB; have HO221 := n0_; have HB := n1_; clear n0_ n1_; (try clear hb); (try clear hb2); (try clear hk); (try clear hi)))
                    go_ret
                    exact ⟨by first | rfl | (simp [errW_none, errW_some] <;> rfl) | (simp [*, errW_none, errW_some] <;> rfl) | (simp [*, errW_none, errW_some]; generalize ByteArray.toList _ = q_; cases q_ <;> rfl), by repeat (first | (with_reducible first | exact HB.out | apply below_alloc | apply pw_below_drewN | apply below_drew1) | exact HB.out)⟩
                  · replace c22 := Bool.eq_false_iff.mpr c22
                    subst c22
                    have H1 : (some false) = some r := by rw [if_neg (show ¬ (false = true) by decide)] at H; exact H
                    clear H
                    have H := H1
                    clear H1
                    obtain rfl := Option.some.inj H
                    go_wp2_with (first | (go_at_call 21; (with_reducible refine (set_File.calls t204 t205 _ A13.out).mono ?_); rintro e w' ⟨rfl, ⟨nd, rfl⟩⟩) | (go_at_call 22; (with_reducible refine (set_Rank.calls t204 t206 _ A15.out).mono ?_); rintro e w' ⟨rfl, ⟨nd, rfl⟩⟩) | (go_at_call 13; (with_reducible refine (set_InFile.calls kj5 a0 t207 t208 _ A17.out).mono ?_); rintro e w38 ⟨rfl, hb⟩; have n0_ := Aside0.mk (below_step (by repeat (first | (with_reducible first | exact HB.out | apply below_alloc | apply pw_below_drewN | apply below_drew1) | exact HB.out)) hb); clear HB; have HB := n0_; clear n0_; (try clear hb); (try clear hb2); (try clear hk); (try clear hi)) | (go_at_call 12; (with_reducible refine (set_Set_Has.calls kj5 t207 t208 t204 true _ A18.out).mono ?_); rintro e w39 ⟨rfl, hb⟩; have n0_ := Aside0.mk (below_step (by repeat (first | (with_reducible first | exact HB.out | apply below_alloc | apply pw_below_drewN | apply below_drew1) | exact HB.out)) hb); clear HB; have HB := n0_; clear n0_; (try clear hb); (try clear hb2); (try clear hk); (try clear hi)) | (go_at_call 15; (with_reducible refine (set_InRank.calls kj5 a1 t210 t211 _ A20.out).mono ?_); rintro e w40 ⟨rfl, hb⟩; have n0_ := Aside0.mk (below_step (by repeat (first | (with_reducible first | exact HB.out | apply below_alloc | apply pw_below_drewN | apply below_drew1) | exact HB.out)) hb); clear HB; have HB := n0_; clear n0_; (try clear hb); (try clear hb2); (try clear hk); (try clear hi)) | (go_at_call 12; (with_reducible refine (set_Set_Has.calls kj5 t210 t211 t204 false _ A21.out).mono ?_); rintro e w41 ⟨rfl, hb⟩; have n0_ := Aside0.mk (below_step (by repeat (first | (with_reducible first | exact HB.out | apply below_alloc | apply pw_below_drewN | apply below_drew1) | exact HB.out)) hb); clear HB; have HB := n0_; clear n0_; (try clear hb); (try clear hb2); (try clear hk); (try clear hi)))
                    go_ret
                    exact ⟨by first | rfl | (simp [errW_none, errW_some] <;> rfl) | (simp [*, errW_none, errW_some] <;> rfl) | (simp [*, errW_none, errW_some]; generalize ByteArray.toList _ = q_; cases q_ <;> rfl), by repeat (first | (with_reducible first | exact HB.out | apply below_alloc | apply pw_below_drewN | apply below_drew1) | exact HB.out)⟩
                · replace c19 := Bool.eq_false_iff.mpr c19
                  subst c19
                  have H1 : (some false) = some r := by rw [if_neg (show ¬ (false = true) by decide)] at H; exact H
                  clear H
                  have H := H1
                  clear H1
                  obtain rfl := Option.some.inj H
                  go_wp2_with (first | (go_at_call 21; (with_reducible refine (set_File.calls t204 t205 _ A13.out).mono ?_); rintro e w' ⟨rfl, ⟨nd, rfl⟩⟩) | (go_at_call 22; (with_reducible refine (set_Rank.calls t204 t206 _ A15.out).mono ?_); rintro e w' ⟨rfl, ⟨nd, rfl⟩⟩) | (go_at_call 13; (with_reducible refine (set_InFile.calls kj5 a0 t207 t208 _ A17.out).mono ?_); rintro e w42 ⟨rfl, hb⟩; have n0_ := Aside0.mk (below_step (by repeat (first | (with_reducible first | exact HB.out | apply below_alloc | apply pw_below_drewN | apply below_drew1) | exact HB.out)) hb); clear HB; have HB := n0_; clear n0_; (try clear hb); (try clear hb2); (try clear hk); (try clear hi)) | (go_at_call 12; (with_reducible refine (set_Set_Has.calls kj5 t207 t208 t204 false _ A18.out).mono ?_); rintro e w43 ⟨rfl, hb⟩; have n0_ := Aside0.mk (below_step (by repeat (first | (with_reducible first | exact HB.out | apply below_alloc | apply pw_below_drewN | apply below_drew1) | exact HB.out)) hb); clear HB; have HB := n0_; clear n0_; (try clear hb); (try clear hb2); (try clear hk); (try clear hi)))
                  go_ret
                  exact ⟨by first | rfl | (simp [errW_none, errW_some] <;> rfl) | (simp [*, errW_none, errW_some] <;> rfl) | (simp [*, errW_none, errW_some]; generalize ByteArray.toList _ = q_; cases q_ <;> rfl), by repeat (first | (with_reducible first | exact HB.out | apply below_alloc | apply pw_below_drewN | apply below_drew1) | exact HB.out)⟩
              · rw [if_neg c16] at H
                have c16b0 : (t206 == a1) = false := beq_eq_false_iff_ne.mpr c16
                have c16b1 : (t206 != a1) = true := bne_iff_ne.mpr c16
                obtain rfl := Option.some.inj H
                go_wp2_with (first | (go_at_call 21; (with_reducible refine (set_File.calls t204 t205 _ A13.out).mono ?_); rintro e w' ⟨rfl, ⟨nd, rfl⟩⟩) | (go_at_call 22; (with_reducible refine (set_Rank.calls t204 t206 _ A15.out).mono ?_); rintro e w' ⟨rfl, ⟨nd, rfl⟩⟩))
                go_ret
                exact ⟨by first | rfl | (simp [errW_none, errW_some] <;> rfl) | (simp [*, errW_none, errW_some] <;> rfl) | (simp [*, errW_none, errW_some]; generalize ByteArray.toList _ = q_; cases q_ <;> rfl), by repeat (first | (with_reducible first | exact HB.out | apply below_alloc | apply pw_below_drewN | apply below_drew1) | exact HB.out)⟩
            · rw [if_neg c14] at H
              have c14b0 : (t205 == a0) = false := beq_eq_false_iff_ne.mpr c14
              have c14b1 : (t205 != a0) = true := bne_iff_ne.mpr c14
              obtain rfl := Option.some.inj H
              go_wp2_with (first | (go_at_call 21; (with_reducible refine (set_File.calls t204 t205 _ A13.out).mono ?_); rintro e w' ⟨rfl, ⟨nd, rfl⟩⟩))
              go_ret
              exact ⟨by first | rfl | (simp [errW_none, errW_some] <;> rfl) | (simp [*, errW_none, errW_some] <;> rfl) | (simp [*, errW_none, errW_some]; generalize ByteArray.toList _ = q_; cases q_ <;> rfl), by repeat (first | (with_reducible first | exact HB.out | apply below_alloc | apply pw_below_drewN | apply below_drew1) | exact HB.out)⟩
          · rw [if_neg c12] at H
            have c12b0 : (t204 == (wrap64 ((wrap64 (9 * a0)) + a1))) = false := beq_eq_false_iff_ne.mpr c12
            have c12b1 : (t204 != (wrap64 ((wrap64 (9 * a0)) + a1))) = true := bne_iff_ne.mpr c12
            obtain rfl := Option.some.inj H
            go_wp2
            go_ret
            exact ⟨by first | rfl | (simp [errW_none, errW_some] <;> rfl) | (simp [*, errW_none, errW_some] <;> rfl) | (simp [*, errW_none, errW_some]; generalize ByteArray.toList _ = q_; cases q_ <;> rfl), by repeat (first | (with_reducible first | exact HB.out | apply below_alloc | apply pw_below_drewN | apply below_drew1) | exact HB.out)⟩
  · replace c4 := Bool.eq_false_iff.mpr c4
    subst c4
    have H1 : (some false) = some r := by rw [if_neg (show ¬ (false = true) by decide)] at H; exact H
    clear H
    have H := H1
    clear H1
    obtain rfl := Option.some.inj H
    go_enter Tryd.func5, Tryd.ntmps5
    go_wp2_with (first | ((with_reducible refine gate_callee (f := 7) rfl ?_); refine goesL_ (some 6) rfl rfl Tryd.func7 (by kernel_rfl) rfl #[] rfl (by (try simp only [List.map_toArray, List.map_cons, List.map_nil]); first | done | rfl | (simp only [List.length_drop, List.length_take]; rfl)) ?_; (with_reducible refine (kakugyolaw01_holds.calls k  false _ (by exact hT.below (by repeat (first | (with_reducible first | exact HB.out | apply below_alloc | apply pw_below_drewN | apply below_drew1) | exact HB.out))) A3.out).mono ?_); rintro e w44 ⟨rfl, hb⟩; refine ⟨_, rfl, ?_⟩; have n0_ := Aside0.mk (below_step (by repeat (first | (with_reducible first | exact HB.out | apply below_alloc | apply pw_below_drewN | apply below_drew1) | exact HB.out)) hb); clear HB; have HB := n0_; clear n0_; (try clear hb); (try clear hb2); (try clear hk); (try clear hi)))
    go_ret
    exact ⟨by first | rfl | (simp [errW_none, errW_some] <;> rfl) | (simp [*, errW_none, errW_some] <;> rfl) | (simp [*, errW_none, errW_some]; generalize ByteArray.toList _ = q_; cases q_ <;> rfl), by repeat (first | (with_reducible first | exact HB.out | apply below_alloc | apply pw_below_drewN | apply below_drew1) | exact HB.out)⟩

/-- THE ONE PURE STATEMENT of kakugyolaw01_SetSquares: yours. -/
def kakugyolaw01_SetSquares.Pure : Prop := ∀ (a0 : Int) (a1 : Int), (Lit.int .i64 a0).wf = true → (Lit.int .i64 a1).wf = true → ∃ k, kakugyolaw01_SetSquares.f k a0 a1 = some true
theorem kakugyolaw01_SetSquares.walk (P : kakugyolaw01_SetSquares.Pure) (a0 : Int) (a1 : Int) (w : World) (hT : bits_TrailingZeros64.Tab w) (w0 : (Lit.int .i64 a0).wf = true) (w1 : (Lit.int .i64 a1).wf = true) :
    Calls Tryd.prog 5 #[.int .i64 a0, .int .i64 a1] w fun e w' => e = .returned (.bool true) ∧ Below w.heap.size w w' := by
  obtain ⟨k, h⟩ := P a0 a1 w0 w1
  refine (kakugyolaw01_SetSquares.calls k a0 a1 true w hT h).mono ?_
  rintro e w' ⟨rfl, hd⟩
  exact ⟨rfl, hd⟩

/-! ### step_Dirs: function 33 -/
mutual
def step_Dirs.j0 : Nat → List (S52) → Int → Bool → Option ((List (S52)))
  | 0, _, _, _ => none
  | k + 1, x3, x4, x22 => if x22 = true then (some (([(⟨(-1), (-1)⟩ : S52), (⟨0, (-1)⟩ : S52), (⟨1, (-1)⟩ : S52), (⟨(-1), 0⟩ : S52), (⟨1, 0⟩ : S52), (⟨0, 1⟩ : S52)] : List (S52)))) else (if x4 = 8 then ((step_Dirs.f k 5).bind fun t236 => ((some (([(⟨(-1), 1⟩ : S52), (⟨1, 1⟩ : S52)] : List (S52)) : List (S52))).bind fun y239 => (if t236.length + y239.length < 8796093022208 then (some (t236 ++ y239)) else (none)))) else (if x4 = 14 then (some (([(⟨0, (-1)⟩ : S52), (⟨(-1), 0⟩ : S52), (⟨1, 0⟩ : S52), (⟨0, 1⟩ : S52)] : List (S52)))) else (if x4 = 15 then (some (([(⟨(-1), (-1)⟩ : S52), (⟨1, (-1)⟩ : S52), (⟨(-1), 1⟩ : S52), (⟨1, 1⟩ : S52)] : List (S52)))) else (some x3))))
def step_Dirs.f : Nat → Int → Option ((List (S52)))
  | 0, _ => none
  | k + 1, a0 => if a0 = 1 then (some (([(⟨0, (-1)⟩ : S52)] : List (S52)))) else (if a0 = 3 then (some (([(⟨(-1), (-2)⟩ : S52), (⟨1, (-2)⟩ : S52)] : List (S52)))) else (if a0 = 4 then (some (([(⟨(-1), (-1)⟩ : S52), (⟨0, (-1)⟩ : S52), (⟨1, (-1)⟩ : S52), (⟨(-1), 1⟩ : S52), (⟨1, 1⟩ : S52)] : List (S52)))) else (if a0 = 5 then (step_Dirs.j0 k ([] : List (S52)) a0 (a0 == 5)) else (if a0 = 9 then (step_Dirs.j0 k ([] : List (S52)) a0 (a0 == 9)) else (if a0 = 10 then (step_Dirs.j0 k ([] : List (S52)) a0 (a0 == 10)) else (if a0 = 11 then (step_Dirs.j0 k ([] : List (S52)) a0 (a0 == 11)) else (step_Dirs.j0 k ([] : List (S52)) a0 (a0 == 12))))))))
end
theorem step_Dirs.mono_l : ∀ k, (∀ y0, LeO (step_Dirs.f k y0) (step_Dirs.f (k + 1) y0)) ∧ (∀ y0 y1 y2, LeO (step_Dirs.j0 k y0 y1 y2) (step_Dirs.j0 (k + 1) y0 y1 y2))
  | 0 => ⟨fun _ r h => by simp [step_Dirs.f] at h, fun _ _ _ r h => by simp [step_Dirs.j0] at h⟩
  | k + 1 => by
    obtain ⟨ih0, ih1⟩ := step_Dirs.mono_l k
    refine ⟨?_, ?_⟩
    · intro y0
      unfold step_Dirs.f
      repeat' first
      | (with_reducible exact ih0 _)
      | (with_reducible exact ih1 _ _ _)
      | (with_reducible exact LeO.refl _)
      | (with_reducible exact LeO.none _)
      | (with_reducible refine LeO.ite ?_ ?_)
      | (with_reducible refine LeO.bind ?_ (fun _ => ?_))
      | exact ih0 _
      | exact ih1 _ _ _
      | exact LeO.none _
      | refine LeO.ite ?_ ?_
      | refine LeO.bind ?_ (fun _ => ?_)
    · intro y0 y1 y2
      unfold step_Dirs.j0
      repeat' first
      | (with_reducible exact ih0 _)
      | (with_reducible exact ih1 _ _ _)
      | (with_reducible exact LeO.refl _)
      | (with_reducible exact LeO.none _)
      | (with_reducible refine LeO.ite ?_ ?_)
      | (with_reducible refine LeO.bind ?_ (fun _ => ?_))
      | exact ih0 _
      | exact ih1 _ _ _
      | exact LeO.none _
      | refine LeO.ite ?_ ?_
      | refine LeO.bind ?_ (fun _ => ?_)
theorem step_Dirs.mono : ∀ a0 k, LeO (step_Dirs.f k a0) (step_Dirs.f (k + 1) a0) := by
  intro a0 k
  obtain ⟨ih0, ih1⟩ := step_Dirs.mono_l k
  exact ih0 a0
set_option maxHeartbeats 8000000 in
set_option maxRecDepth 100000 in
theorem step_Dirs.calls (k : Nat) : ∀ (a0 : Int) (r : List (S52)) (w : World) (h : step_Dirs.f k a0 = some r),
    Calls Tryd.prog 33 #[.int .i64 a0] w fun e w' => ∃ v0_ : Value, e = .returned (v0_) ∧ Kd.R k52 52 w' w.heap.size (fun _ => True) v0_ r ∧ Below w.heap.size w w' := by
  induction k using Nat.strongRecOn with
  | _ k ih =>
  intro a0 r w h
  cases k with
  | zero => exact absurd h (by simp [step_Dirs.f])
  | succ k =>
  simp only [step_Dirs.f] at h
  have hu52 := Tryd.underlying52
  have HB := Aside0.mk (Below.refl w.heap.size w)
  have H : (if a0 = 1 then (some (([(⟨0, (-1)⟩ : S52)] : List (S52)))) else (if a0 = 3 then (some (([(⟨(-1), (-2)⟩ : S52), (⟨1, (-2)⟩ : S52)] : List (S52)))) else (if a0 = 4 then (some (([(⟨(-1), (-1)⟩ : S52), (⟨0, (-1)⟩ : S52), (⟨1, (-1)⟩ : S52), (⟨(-1), 1⟩ : S52), (⟨1, 1⟩ : S52)] : List (S52)))) else (if a0 = 5 then (step_Dirs.j0 k ([] : List (S52)) a0 (a0 == 5)) else (if a0 = 9 then (step_Dirs.j0 k ([] : List (S52)) a0 (a0 == 9)) else (if a0 = 10 then (step_Dirs.j0 k ([] : List (S52)) a0 (a0 == 10)) else (if a0 = 11 then (step_Dirs.j0 k ([] : List (S52)) a0 (a0 == 11)) else (step_Dirs.j0 k ([] : List (S52)) a0 (a0 == 12))))))))) = some r := h
  clear h
  by_cases c2 : a0 = 1
  · rw [if_pos c2] at H
    have c2b0 : (a0 == 1) = true := beq_iff_eq.mpr c2
    have c2b1 : (a0 != 1) = false := bne_eq_false_iff_eq.mpr c2
    clear c2
    obtain ⟨y224, hy224⟩ : ∃ y_ : List (S52), y_ = (([(⟨0, (-1)⟩ : S52)] : List (S52))) := ⟨_, rfl⟩
    replace H : (some y224) = some r := by first | (rw [hy224]; with_reducible exact H) | (have H2_ := (Option.bind_some _ _).symm.trans H; rw [hy224]; with_reducible exact H2_) | (have H2_ := (Option.bind_some _ _).symm.trans H; with_reducible exact H2_) | with_reducible exact H | (rw [hy224]; exact H) | exact H
    have Ny224 := Aside0.mk hy224
    clear hy224
    obtain rfl := Option.some.inj H
    go_enter Tryd.func33, Tryd.ntmps33
    go_wp2_with (first | ((with_reducible refine gate_dst (N := 8) rfl ?_); refine Kd.R_lit k52 _ 52 ?hg (N := 8) ?hd (xs := ([(⟨0, (-1)⟩ : S52)] : List (S52))) (inner := [.int .i64 0, .int .i64 (-1)]) (ok := fun _ => True) (okp := fun _ => True) ?hr ?hp (fun _ hk => hk) trivial (Below.refl _ _) (Nat.le_refl _) (by simp) ?_; (case hd => rfl); (case hg => rfl); (case hr => first | (go_simp; done) | (go_simp; rfl)); (case hp => exact (Reps.c2 (show Kd.M k52 _ _ _ (⟨0, (-1)⟩ : S52) [.int .i64 0, .int .i64 (-1)] from (k52_mkM _ _ _ (⟨0, (-1)⟩ : S52) )) (Reps.none _ _))); intro v225 w3 ho4 hb hg_ hnew_; clear hg_ hnew_; (first | rw [← Ny224.out] at ho4 | (simp only [Int.reduceToNat] at ho4; rw [← Ny224.out] at ho4)); have n0_ := Aside0.mk (Kd.R_lower ho4 (below_size (by repeat (first | (with_reducible first | exact HB.out | apply below_alloc | apply pw_below_drewN | apply below_drew1) | exact HB.out)))); have n1_ := Aside0.mk (below_step (by repeat (first | (with_reducible first | exact HB.out | apply below_alloc | apply pw_below_drewN | apply below_drew1) | exact HB.out)) hb); clear HB; have HO226 := n0_; have HB := n1_; clear n0_ n1_; clear hb ho4))
    go_ret
    exact ⟨_, by first | rfl | (simp [errW_none, errW_some] <;> rfl) | (simp [*, errW_none, errW_some] <;> rfl), by (with_reducible repeat (first | apply Kd.R_alloc | apply Kd.R_drewN | apply Kd.R_drew)); exact HO226.out, by repeat (first | (with_reducible first | exact HB.out | apply below_alloc | apply pw_below_drewN | apply below_drew1) | exact HB.out)⟩
  · rw [if_neg c2] at H
    have c2b0 : (a0 == 1) = false := beq_eq_false_iff_ne.mpr c2
    have c2b1 : (a0 != 1) = true := bne_iff_ne.mpr c2
    by_cases c5 : a0 = 3
    · rw [if_pos c5] at H
      have c5b0 : (a0 == 3) = true := beq_iff_eq.mpr c5
      have c5b1 : (a0 != 3) = false := bne_eq_false_iff_eq.mpr c5
      clear c5
      obtain ⟨y227, hy227⟩ : ∃ y_ : List (S52), y_ = (([(⟨(-1), (-2)⟩ : S52), (⟨1, (-2)⟩ : S52)] : List (S52))) := ⟨_, rfl⟩
      replace H : (some y227) = some r := by first | (rw [hy227]; with_reducible exact H) | (have H2_ := (Option.bind_some _ _).symm.trans H; rw [hy227]; with_reducible exact H2_) | (have H2_ := (Option.bind_some _ _).symm.trans H; with_reducible exact H2_) | with_reducible exact H | (rw [hy227]; exact H) | exact H
      have Ny227 := Aside0.mk hy227
      clear hy227
      obtain rfl := Option.some.inj H
      go_enter Tryd.func33, Tryd.ntmps33
      go_wp2_with (first | ((with_reducible refine gate_dst (N := 13) rfl ?_); refine Kd.R_lit k52 _ 52 ?hg (N := 13) ?hd (xs := ([(⟨(-1), (-2)⟩ : S52), (⟨1, (-2)⟩ : S52)] : List (S52))) (inner := [.int .i64 (-1), .int .i64 (-2), .int .i64 1, .int .i64 (-2)]) (ok := fun _ => True) (okp := fun _ => True) ?hr ?hp (fun _ hk => hk) trivial (Below.refl _ _) (Nat.le_refl _) (by simp) ?_; (case hd => rfl); (case hg => rfl); (case hr => first | (go_simp; done) | (go_simp; rfl)); (case hp => exact (Reps.c2 (show Kd.M k52 _ _ _ (⟨(-1), (-2)⟩ : S52) [.int .i64 (-1), .int .i64 (-2)] from (k52_mkM _ _ _ (⟨(-1), (-2)⟩ : S52) )) (Reps.c2 (show Kd.M k52 _ _ _ (⟨1, (-2)⟩ : S52) [.int .i64 1, .int .i64 (-2)] from (k52_mkM _ _ _ (⟨1, (-2)⟩ : S52) )) (Reps.none _ _)))); intro v228 w6 ho7 hb hg_ hnew_; clear hg_ hnew_; (first | rw [← Ny227.out] at ho7 | (simp only [Int.reduceToNat] at ho7; rw [← Ny227.out] at ho7)); have n0_ := Aside0.mk (Kd.R_lower ho7 (below_size (by repeat (first | (with_reducible first | exact HB.out | apply below_alloc | apply pw_below_drewN | apply below_drew1) | exact HB.out)))); have n1_ := Aside0.mk (below_step (by repeat (first | (with_reducible first | exact HB.out | apply below_alloc | apply pw_below_drewN | apply below_drew1) | exact HB.out)) hb); clear HB; have HO229 := n0_; have HB := n1_; clear n0_ n1_; clear hb ho7))
      go_ret
      exact ⟨_, by first | rfl | (simp [errW_none, errW_some] <;> rfl) | (simp [*, errW_none, errW_some] <;> rfl), by (with_reducible repeat (first | apply Kd.R_alloc | apply Kd.R_drewN | apply Kd.R_drew)); exact HO229.out, by repeat (first | (with_reducible first | exact HB.out | apply below_alloc | apply pw_below_drewN | apply below_drew1) | exact HB.out)⟩
    · rw [if_neg c5] at H
      have c5b0 : (a0 == 3) = false := beq_eq_false_iff_ne.mpr c5
      have c5b1 : (a0 != 3) = true := bne_iff_ne.mpr c5
      by_cases c8 : a0 = 4
      · rw [if_pos c8] at H
        have c8b0 : (a0 == 4) = true := beq_iff_eq.mpr c8
        have c8b1 : (a0 != 4) = false := bne_eq_false_iff_eq.mpr c8
        clear c8
        obtain ⟨y230, hy230⟩ : ∃ y_ : List (S52), y_ = (([(⟨(-1), (-1)⟩ : S52), (⟨0, (-1)⟩ : S52), (⟨1, (-1)⟩ : S52), (⟨(-1), 1⟩ : S52), (⟨1, 1⟩ : S52)] : List (S52))) := ⟨_, rfl⟩
        replace H : (some y230) = some r := by first | (rw [hy230]; with_reducible exact H) | (have H2_ := (Option.bind_some _ _).symm.trans H; rw [hy230]; with_reducible exact H2_) | (have H2_ := (Option.bind_some _ _).symm.trans H; with_reducible exact H2_) | with_reducible exact H | (rw [hy230]; exact H) | exact H
        have Ny230 := Aside0.mk hy230
        clear hy230
        obtain rfl := Option.some.inj H
        go_enter Tryd.func33, Tryd.ntmps33
        go_wp2_with (first | ((with_reducible refine gate_dst (N := 21) rfl ?_); refine Kd.R_lit k52 _ 52 ?hg (N := 21) ?hd (xs := ([(⟨(-1), (-1)⟩ : S52), (⟨0, (-1)⟩ : S52), (⟨1, (-1)⟩ : S52), (⟨(-1), 1⟩ : S52), (⟨1, 1⟩ : S52)] : List (S52))) (inner := [.int .i64 (-1), .int .i64 (-1), .int .i64 0, .int .i64 (-1), .int .i64 1, .int .i64 (-1), .int .i64 (-1), .int .i64 1, .int .i64 1, .int .i64 1]) (ok := fun _ => True) (okp := fun _ => True) ?hr ?hp (fun _ hk => hk) trivial (Below.refl _ _) (Nat.le_refl _) (by simp) ?_; (case hd => rfl); (case hg => rfl); (case hr => first | (go_simp; done) | (go_simp; rfl)); (case hp => exact (Reps.c2 (show Kd.M k52 _ _ _ (⟨(-1), (-1)⟩ : S52) [.int .i64 (-1), .int .i64 (-1)] from (k52_mkM _ _ _ (⟨(-1), (-1)⟩ : S52) )) (Reps.c2 (show Kd.M k52 _ _ _ (⟨0, (-1)⟩ : S52) [.int .i64 0, .int .i64 (-1)] from (k52_mkM _ _ _ (⟨0, (-1)⟩ : S52) )) (Reps.c2 (show Kd.M k52 _ _ _ (⟨1, (-1)⟩ : S52) [.int .i64 1, .int .i64 (-1)] from (k52_mkM _ _ _ (⟨1, (-1)⟩ : S52) )) (Reps.c2 (show Kd.M k52 _ _ _ (⟨(-1), 1⟩ : S52) [.int .i64 (-1), .int .i64 1] from (k52_mkM _ _ _ (⟨(-1), 1⟩ : S52) )) (Reps.c2 (show Kd.M k52 _ _ _ (⟨1, 1⟩ : S52) [.int .i64 1, .int .i64 1] from (k52_mkM _ _ _ (⟨1, 1⟩ : S52) )) (Reps.none _ _))))))); intro v231 w9 ho10 hb hg_ hnew_; clear hg_ hnew_; (first | rw [← Ny230.out] at ho10 | (simp only [Int.reduceToNat] at ho10; rw [← Ny230.out] at ho10)); have n0_ := Aside0.mk (Kd.R_lower ho10 (below_size (by repeat (first | (with_reducible first | exact HB.out | apply below_alloc | apply pw_below_drewN | apply below_drew1) | exact HB.out)))); have n1_ := Aside0.mk (below_step (by repeat (first | (with_reducible first | exact HB.out | apply below_alloc | apply pw_below_drewN | apply below_drew1) | exact HB.out)) hb); clear HB; have HO232 := n0_; have HB := n1_; clear n0_ n1_; clear hb ho10))
        go_ret
        exact ⟨_, by first | rfl | (simp [errW_none, errW_some] <;> rfl) | (simp [*, errW_none, errW_some] <;> rfl), by (with_reducible repeat (first | apply Kd.R_alloc | apply Kd.R_drewN | apply Kd.R_drew)); exact HO232.out, by repeat (first | (with_reducible first | exact HB.out | apply below_alloc | apply pw_below_drewN | apply below_drew1) | exact HB.out)⟩
      · rw [if_neg c8] at H
        have c8b0 : (a0 == 4) = false := beq_eq_false_iff_ne.mpr c8
        have c8b1 : (a0 != 4) = true := bne_iff_ne.mpr c8
        have HC11 := Aside0.mk H
        clear H
        go_enter Tryd.func33, Tryd.ntmps33
        go_upto_if 22 with (fail)
        go_cut [22] (fun v22 wc => ∃ (kq : Nat) (x22_10 : Bool), v22 = .bool x22_10 ∧ Aside0 (step_Dirs.j0 kq ([] : List (S52)) a0 x22_10 = some r) ∧ Aside0 (kq ≤ k) ∧ Aside0 (Kd.R k52 52 wc w.heap.size (fun _ => True) (.slice none 0 0) ([] : List (S52))) ∧ Aside0 (Below w.heap.size w wc))
        case first =>
          have H := HC11.out
          clear HC11
          by_cases c12 : a0 = 5
          · rw [if_pos c12] at H
            have c12b0 : (a0 == 5) = true := beq_iff_eq.mpr c12
            have c12b1 : (a0 != 5) = false := bne_eq_false_iff_eq.mpr c12
            clear c12
            (first | rw [c12b0] | (simp only [i64_w, i32_w]; rw [c12b0]) | skip)
            have H' := Aside0.mk H
            clear H
            go_wp2
            go_meet
            case rel => exact ⟨_, ((a0 == 5)), (by first | rfl | (simp; done) | (simp [*]; done)), H', ⟨by first | omega | exact Nat.le_refl _⟩, ⟨by first | exact Kd.R_nil _ _ _ _ _ | exact Kd.N_nil _ _ _ _ _ | exact Kd.V_nil _ _ _ _ _ | exact Kd.Q_nil _ _ _ _ _ | exact Kd.S_nil _ _ _ _ _⟩, ⟨by repeat (first | (with_reducible first | exact HB.out | apply below_alloc | apply pw_below_drewN | apply below_drew1) | exact HB.out)⟩⟩
          · rw [if_neg c12] at H
            have c12b0 : (a0 == 5) = false := beq_eq_false_iff_ne.mpr c12
            have c12b1 : (a0 != 5) = true := bne_iff_ne.mpr c12
            (first | rw [c12b0] | (simp only [i64_w, i32_w]; rw [c12b0]) | skip)
            by_cases c13 : a0 = 9
            · rw [if_pos c13] at H
              have c13b0 : (a0 == 9) = true := beq_iff_eq.mpr c13
              have c13b1 : (a0 != 9) = false := bne_eq_false_iff_eq.mpr c13
              clear c13
              have H' := Aside0.mk H
              clear H
              go_wp2
              go_meet
              case rel => exact ⟨_, ((a0 == 9)), (by first | rfl | (simp; done) | (simp [*]; done)), H', ⟨by first | omega | exact Nat.le_refl _⟩, ⟨by first | exact Kd.R_nil _ _ _ _ _ | exact Kd.N_nil _ _ _ _ _ | exact Kd.V_nil _ _ _ _ _ | exact Kd.Q_nil _ _ _ _ _ | exact Kd.S_nil _ _ _ _ _⟩, ⟨by repeat (first | (with_reducible first | exact HB.out | apply below_alloc | apply pw_below_drewN | apply below_drew1) | exact HB.out)⟩⟩
            · rw [if_neg c13] at H
              have c13b0 : (a0 == 9) = false := beq_eq_false_iff_ne.mpr c13
              have c13b1 : (a0 != 9) = true := bne_iff_ne.mpr c13
              by_cases c14 : a0 = 10
              · rw [if_pos c14] at H
                have c14b0 : (a0 == 10) = true := beq_iff_eq.mpr c14
                have c14b1 : (a0 != 10) = false := bne_eq_false_iff_eq.mpr c14
                clear c14
                have H' := Aside0.mk H
                clear H
                go_wp2
                go_meet
                case rel => exact ⟨_, ((a0 == 10)), (by first | rfl | (simp; done) | (simp [*]; done)), H', ⟨by first | omega | exact Nat.le_refl _⟩, ⟨by first | exact Kd.R_nil _ _ _ _ _ | exact Kd.N_nil _ _ _ _ _ | exact Kd.V_nil _ _ _ _ _ | exact Kd.Q_nil _ _ _ _ _ | exact Kd.S_nil _ _ _ _ _⟩, ⟨by repeat (first | (with_reducible first | exact HB.out | apply below_alloc | apply pw_below_drewN | apply below_drew1) | exact HB.out)⟩⟩
              · rw [if_neg c14] at H
                have c14b0 : (a0 == 10) = false := beq_eq_false_iff_ne.mpr c14
                have c14b1 : (a0 != 10) = true := bne_iff_ne.mpr c14
                by_cases c15 : a0 = 11
                · rw [if_pos c15] at H
                  have c15b0 : (a0 == 11) = true := beq_iff_eq.mpr c15
                  have c15b1 : (a0 != 11) = false := bne_eq_false_iff_eq.mpr c15
                  clear c15
                  have H' := Aside0.mk H
                  clear H
                  go_wp2
                  go_meet
                  case rel => exact ⟨_, ((a0 == 11)), (by first | rfl | (simp; done) | (simp [*]; done)), H', ⟨by first | omega | exact Nat.le_refl _⟩, ⟨by first | exact Kd.R_nil _ _ _ _ _ | exact Kd.N_nil _ _ _ _ _ | exact Kd.V_nil _ _ _ _ _ | exact Kd.Q_nil _ _ _ _ _ | exact Kd.S_nil _ _ _ _ _⟩, ⟨by repeat (first | (with_reducible first | exact HB.out | apply below_alloc | apply pw_below_drewN | apply below_drew1) | exact HB.out)⟩⟩
                · rw [if_neg c15] at H
                  have c15b0 : (a0 == 11) = false := beq_eq_false_iff_ne.mpr c15
                  have c15b1 : (a0 != 11) = true := bne_iff_ne.mpr c15
                  have H' := Aside0.mk H
                  clear H
                  go_wp2
                  go_meet
                  case rel => exact ⟨_, ((a0 == 12)), (by first | rfl | (simp; done) | (simp [*]; done)), H', ⟨by first | omega | exact Nat.le_refl _⟩, ⟨by first | exact Kd.R_nil _ _ _ _ _ | exact Kd.N_nil _ _ _ _ _ | exact Kd.V_nil _ _ _ _ _ | exact Kd.Q_nil _ _ _ _ _ | exact Kd.S_nil _ _ _ _ _⟩, ⟨by repeat (first | (with_reducible first | exact HB.out | apply below_alloc | apply pw_below_drewN | apply below_drew1) | exact HB.out)⟩⟩
        case rest =>
          clear HC11
          try clear c1
          try clear c2
          try clear c2b0
          try clear c2b1
          try clear p2
          try clear c3
          try clear c5
          try clear c5b0
          try clear c5b1
          try clear c8
          try clear c8b0
          try clear c8b1
          try clear c12
          try clear c12b0
          try clear c12b1
          try clear c13
          try clear c13b0
          try clear c13b1
          try clear c14
          try clear c14b0
          try clear c14b1
          try clear c15
          try clear c15b0
          try clear c15b1
          obtain ⟨kq, x22_10, rfl, HA, HJ10, HO_3, HB⟩ := hcut
          cases kq with
          | zero => exact absurd HA.out (by simp [step_Dirs.j0])
          | succ kj10 =>
            have H := HA.out
            clear HA
            simp only [step_Dirs.j0] at H
            by_cases c16 : x22_10 = true
            · subst c16
              have H1 : (some (([(⟨(-1), (-1)⟩ : S52), (⟨0, (-1)⟩ : S52), (⟨1, (-1)⟩ : S52), (⟨(-1), 0⟩ : S52), (⟨1, 0⟩ : S52), (⟨0, 1⟩ : S52)] : List (S52)))) = some r := by rw [if_pos rfl] at H; exact H
              clear H
              have H := H1
              clear H1
              obtain ⟨y233, hy233⟩ : ∃ y_ : List (S52), y_ = (([(⟨(-1), (-1)⟩ : S52), (⟨0, (-1)⟩ : S52), (⟨1, (-1)⟩ : S52), (⟨(-1), 0⟩ : S52), (⟨1, 0⟩ : S52), (⟨0, 1⟩ : S52)] : List (S52))) := ⟨_, rfl⟩
              replace H : (some y233) = some r := by first | (rw [hy233]; with_reducible exact H) | (have H2_ := (Option.bind_some _ _).symm.trans H; rw [hy233]; with_reducible exact H2_) | (have H2_ := (Option.bind_some _ _).symm.trans H; with_reducible exact H2_) | with_reducible exact H | (rw [hy233]; exact H) | exact H
              have Ny233 := Aside0.mk hy233
              clear hy233
              obtain rfl := Option.some.inj H
              go_wp2_with (first | ((with_reducible refine gate_dst (N := 34) rfl ?_); refine Kd.R_lit k52 _ 52 ?hg (N := 34) ?hd (xs := ([(⟨(-1), (-1)⟩ : S52), (⟨0, (-1)⟩ : S52), (⟨1, (-1)⟩ : S52), (⟨(-1), 0⟩ : S52), (⟨1, 0⟩ : S52), (⟨0, 1⟩ : S52)] : List (S52))) (inner := [.int .i64 (-1), .int .i64 (-1), .int .i64 0, .int .i64 (-1), .int .i64 1, .int .i64 (-1), .int .i64 (-1), .int .i64 0, .int .i64 1, .int .i64 0, .int .i64 0, .int .i64 1]) (ok := fun _ => True) (okp := fun _ => True) ?hr ?hp (fun _ hk => hk) trivial (Below.refl _ _) (Nat.le_refl _) (by simp) ?_; (case hd => rfl); (case hg => rfl); (case hr => first | (go_simp; done) | (go_simp; rfl)); (case hp => exact (Reps.c2 (show Kd.M k52 _ _ _ (⟨(-1), (-1)⟩ : S52) [.int .i64 (-1), .int .i64 (-1)] from (k52_mkM _ _ _ (⟨(-1), (-1)⟩ : S52) )) (Reps.c2 (show Kd.M k52 _ _ _ (⟨0, (-1)⟩ : S52) [.int .i64 0, .int .i64 (-1)] from (k52_mkM _ _ _ (⟨0, (-1)⟩ : S52) )) (Reps.c2 (show Kd.M k52 _ _ _ (⟨1, (-1)⟩ : S52) [.int .i64 1, .int .i64 (-1)] from (k52_mkM _ _ _ (⟨1, (-1)⟩ : S52) )) (Reps.c2 (show Kd.M k52 _ _ _ (⟨(-1), 0⟩ : S52) [.int .i64 (-1), .int .i64 0] from (k52_mkM _ _ _ (⟨(-1), 0⟩ : S52) )) (Reps.c2 (show Kd.M k52 _ _ _ (⟨1, 0⟩ : S52) [.int .i64 1, .int .i64 0] from (k52_mkM _ _ _ (⟨1, 0⟩ : S52) )) (Reps.c2 (show Kd.M k52 _ _ _ (⟨0, 1⟩ : S52) [.int .i64 0, .int .i64 1] from (k52_mkM _ _ _ (⟨0, 1⟩ : S52) )) (Reps.none _ _)))))))); intro v234 w17 ho18 hb hg_ hnew_; clear hg_ hnew_; (first | rw [← Ny233.out] at ho18 | (simp only [Int.reduceToNat] at ho18; rw [← Ny233.out] at ho18)); have n0_ := Aside0.mk (Kd.R_elder' (by (with_reducible repeat (first | apply Kd.R_alloc | apply Kd.R_drewN | apply Kd.R_drew)); exact HO_3.out) (Kd.R_base ho18) hb); have n1_ := Aside0.mk (Kd.R_lower (Kd.R_new' ho18 (Kd.R_lt (by (with_reducible repeat (first | apply Kd.R_alloc | apply Kd.R_drewN | apply Kd.R_drew)); exact HO_3.out))) (below_size (by repeat (first | (with_reducible first | exact HB.out | apply below_alloc | apply pw_below_drewN | apply below_drew1) | exact HB.out)))); have n2_ := Aside0.mk (below_step (by repeat (first | (with_reducible first | exact HB.out | apply below_alloc | apply pw_below_drewN | apply below_drew1) | exact HB.out)) hb); clear HO_3; clear HB; have HO_3 := n0_; have HO235 := n1_; have HB := n2_; clear n0_ n1_ n2_; clear hb ho18))
              go_ret
              exact ⟨_, by first | rfl | (simp [errW_none, errW_some] <;> rfl) | (simp [*, errW_none, errW_some] <;> rfl), by (with_reducible repeat (first | apply Kd.R_alloc | apply Kd.R_drewN | apply Kd.R_drew)); exact Kd.R_mono HO235.out (fun _ hk => trivial), by repeat (first | (with_reducible first | exact HB.out | apply below_alloc | apply pw_below_drewN | apply below_drew1) | exact HB.out)⟩
            · replace c16 := Bool.eq_false_iff.mpr c16
              subst c16
              have H1 : (if a0 = 8 then ((step_Dirs.f kj10 5).bind fun t236 => ((some (([(⟨(-1), 1⟩ : S52), (⟨1, 1⟩ : S52)] : List (S52)) : List (S52))).bind fun y239 => (if t236.length + y239.length < 8796093022208 then (some (t236 ++ y239)) else (none)))) else (if a0 = 14 then (some (([(⟨0, (-1)⟩ : S52), (⟨(-1), 0⟩ : S52), (⟨1, 0⟩ : S52), (⟨0, 1⟩ : S52)] : List (S52)))) else (if a0 = 15 then (some (([(⟨(-1), (-1)⟩ : S52), (⟨1, (-1)⟩ : S52), (⟨(-1), 1⟩ : S52), (⟨1, 1⟩ : S52)] : List (S52)))) else (some ([] : List (S52)))))) = some r := by rw [if_neg (show ¬ (false = true) by decide)] at H; exact H
              clear H
              have H := H1
              clear H1
              by_cases c19 : a0 = 8
              · rw [if_pos c19] at H
                have c19b0 : (a0 == 8) = true := beq_iff_eq.mpr c19
                have c19b1 : (a0 != 8) = false := bne_eq_false_iff_eq.mpr c19
                clear c19
                replace H := Option.bind_eq_some_iff.mp H
                obtain ⟨t236, A200, H⟩ := H
                replace H : ((some (([(⟨(-1), 1⟩ : S52), (⟨1, 1⟩ : S52)] : List (S52)) : List (S52))).bind fun y239 => (if t236.length + y239.length < 8796093022208 then (some (t236 ++ y239)) else (none))) = some r := H
                have A20 := Aside0.mk A200
                clear A200
                obtain ⟨y239, hy239⟩ : ∃ y_ : List (S52), y_ = (([(⟨(-1), 1⟩ : S52), (⟨1, 1⟩ : S52)] : List (S52))) := ⟨_, rfl⟩
                replace H : (if t236.length + y239.length < 8796093022208 then (some (t236 ++ y239)) else (none)) = some r := by first | (rw [hy239]; with_reducible exact H) | (have H2_ := (Option.bind_some _ _).symm.trans H; rw [hy239]; with_reducible exact H2_) | (have H2_ := (Option.bind_some _ _).symm.trans H; with_reducible exact H2_) | with_reducible exact H | (rw [hy239]; exact H) | exact H
                have Ny239 := Aside0.mk hy239
                clear hy239
                by_cases c21 : t236.length + y239.length < 8796093022208
                · rw [if_pos c21] at H
                  have LMc21 := Aside0.mk c21
                  clear c21
                  obtain ⟨y242, hy242⟩ : ∃ y_ : List (S52), y_ = (t236 ++ y239) := ⟨_, rfl⟩
                  replace H : (some y242) = some r := by first | (rw [hy242]; with_reducible exact H) | (have H2_ := (Option.bind_some _ _).symm.trans H; rw [hy242]; with_reducible exact H2_) | (have H2_ := (Option.bind_some _ _).symm.trans H; with_reducible exact H2_) | with_reducible exact H | (rw [hy242]; exact H) | exact H
                  have Ny242 := Aside0.mk hy242
                  clear hy242
                  obtain rfl := Option.some.inj H
                  go_wp2_with (first | ((with_reducible refine gate_callee (f := 33) rfl ?_); refine goesL_ (some 37) rfl rfl Tryd.func33 (by kernel_rfl) rfl #[.int .i64 5] rfl (by (try simp only [List.map_toArray, List.map_cons, List.map_nil]); first | done | rfl | (simp only [List.length_drop, List.length_take]; rfl)) ?_; (with_reducible refine (ih kj10 (by have := HJ10.out; omega) 5 t236 _ A20.out).mono ?_); rintro e w22 ⟨v237, rfl, ho0, hb⟩; refine ⟨_, rfl, ?_⟩; have n0_ := Aside0.mk (Kd.R_elder' (by (with_reducible repeat (first | apply Kd.R_alloc | apply Kd.R_drewN | apply Kd.R_drew)); exact HO_3.out) (Kd.R_base ho0) hb); have n1_ := Aside0.mk (Kd.R_lower (Kd.R_new' ho0 (Kd.R_lt (by (with_reducible repeat (first | apply Kd.R_alloc | apply Kd.R_drewN | apply Kd.R_drew)); exact HO_3.out))) (below_size (by repeat (first | (with_reducible first | exact HB.out | apply below_alloc | apply pw_below_drewN | apply below_drew1) | exact HB.out)))); have n2_ := Aside0.mk (below_step (by repeat (first | (with_reducible first | exact HB.out | apply below_alloc | apply pw_below_drewN | apply below_drew1) | exact HB.out)) hb); clear HO_3; clear HB; have HO_3 := n0_; have HO238 := n1_; have HB := n2_; clear n0_ n1_ n2_; (try clear hb); (try clear hb2); (try clear hk); (try clear hi); (try clear ho0)) | ((with_reducible refine gate_dst (N := 40) rfl ?_); refine Kd.R_lit k52 _ 52 ?hg (N := 40) ?hd (xs := ([(⟨(-1), 1⟩ : S52), (⟨1, 1⟩ : S52)] : List (S52))) (inner := [.int .i64 (-1), .int .i64 1, .int .i64 1, .int .i64 1]) (ok := fun _ => True) (okp := fun _ => True) ?hr ?hp (fun _ hk => hk) trivial (Below.refl _ _) (Nat.le_refl _) (by simp) ?_; (case hd => rfl); (case hg => rfl); (case hr => first | (go_simp; done) | (go_simp; rfl)); (case hp => exact (Reps.c2 (show Kd.M k52 _ _ _ (⟨(-1), 1⟩ : S52) [.int .i64 (-1), .int .i64 1] from (k52_mkM _ _ _ (⟨(-1), 1⟩ : S52) )) (Reps.c2 (show Kd.M k52 _ _ _ (⟨1, 1⟩ : S52) [.int .i64 1, .int .i64 1] from (k52_mkM _ _ _ (⟨1, 1⟩ : S52) )) (Reps.none _ _)))); intro v240 w23 ho24 hb hg_ hnew_; clear hg_ hnew_; (first | rw [← Ny239.out] at ho24 | (simp only [Int.reduceToNat] at ho24; rw [← Ny239.out] at ho24)); have n0_ := Aside0.mk (Kd.R_elder' (by (with_reducible repeat (first | apply Kd.R_alloc | apply Kd.R_drewN | apply Kd.R_drew)); exact HO_3.out) (Kd.R_base ho24) hb); have n1_ := Aside0.mk (Kd.R_elder' (by (with_reducible repeat (first | apply Kd.R_alloc | apply Kd.R_drewN | apply Kd.R_drew)); exact HO238.out) (Kd.R_base ho24) hb); have n2_ := Aside0.mk (Kd.R_lower (Kd.R_new' (Kd.R_new' ho24 (Kd.R_lt (by (with_reducible repeat (first | apply Kd.R_alloc | apply Kd.R_drewN | apply Kd.R_drew)); exact HO_3.out))) (Kd.R_lt (by (with_reducible repeat (first | apply Kd.R_alloc | apply Kd.R_drewN | apply Kd.R_drew)); exact HO238.out))) (below_size (by repeat (first | (with_reducible first | exact HB.out | apply below_alloc | apply pw_below_drewN | apply below_drew1) | exact HB.out)))); have n3_ := Aside0.mk (below_step (by repeat (first | (with_reducible first | exact HB.out | apply below_alloc | apply pw_below_drewN | apply below_drew1) | exact HB.out)) hb); clear HO_3; clear HO238; clear HB; have HO_3 := n0_; have HO238 := n1_; have HO241 := n2_; have HB := n3_; clear n0_ n1_ n2_ n3_; clear hb ho24; obtain ⟨Ao26, co26, eo26⟩ := Kd.R_slice HO241.out; subst eo26) | ((with_reducible refine gate_builtin (b := .append) (xs := #[.tmp 37, .tmp 40]) rfl ?_); at_builtin; refine Kd.R_append_rows k52 (w0 := w) w.heap.size rfl (.tmp 37) (.tmp 40) 48 52 (.agg #[(.int .i64 0), (.int .i64 0)]) 16 rfl Tryd.underlying48 info52 rfl (by decide) (by omega) v237 t236 y239 _ _ _ (fun k_ => some k_ ≠ (.slice none 0 0 : Value).ownBlock ∧ some k_ ≠ (.slice Ao26 y239.length co26 : Value).ownBlock) (fun _ => False) rfl rfl ?aO ?aR (fun _ _ h => h) (fun _ h => h.elim) ?aF ?aB ?aS ?aL ?_; (case aR => repeat (first | exact (Kd.R_reads' HO241.out).2.2 | (with_reducible refine Kd.C_alloc ?_ _) | (with_reducible refine Kd.C_drewN ?_ _) | (with_reducible refine Kd.C_drew ?_))); (case aB => exact (by repeat (first | (with_reducible first | exact HB.out | apply below_alloc | apply pw_below_drewN | apply below_drew1) | exact HB.out))); (case aF => exact (fun k_ hk => ⟨Kd.fresh' (Kd.R_lt (by (with_reducible repeat (first | apply Kd.R_alloc | apply Kd.R_drewN | apply Kd.R_drew)); exact HO_3.out)) k_ hk, Kd.fresh' (Kd.R_lt (by (with_reducible repeat (first | apply Kd.R_alloc | apply Kd.R_drewN | apply Kd.R_drew)); exact HO241.out)) k_ hk⟩)); (case aO => exact (by (with_reducible repeat (first | apply Kd.R_alloc | apply Kd.R_drewN | apply Kd.R_drew)); exact Kd.R_mono HO238.out (fun _ hk => ⟨hk.1.2, hk.2⟩))); (case aS => exact (below_size (by repeat (first | (with_reducible first | exact HB.out | apply below_alloc | apply pw_below_drewN | apply below_drew1) | exact HB.out)))); (case aL => have := LMc21.out; omega); intro v243 w25 ho hb hg hat; rw [← Ny242.out] at ho; have n0_ := Aside0.mk (Kd.R_after (ok := (fun k_ => some k_ ≠ (.slice Ao26 y239.length co26 : Value).ownBlock)) (by (with_reducible repeat (first | apply Kd.R_alloc | apply Kd.R_drewN | apply Kd.R_drew)); exact Kd.R_mono HO_3.out (fun _ hk => ⟨hk.2, hk.1.2⟩)) hg hat); have n1_ := Aside0.mk (Kd.R_after (ok := (fun k_ => some k_ ≠ (.slice none 0 0 : Value).ownBlock)) (by (with_reducible repeat (first | apply Kd.R_alloc | apply Kd.R_drewN | apply Kd.R_drew)); exact Kd.R_mono HO241.out (fun _ hk => ⟨hk.1.2, hk.2⟩)) hg hat); have n2_ := Aside0.mk (hb); have n3_ := Aside0.mk (ho); clear HO_3; clear HO241; clear HB; clear HO238; have HO_3 := n0_; have HO241 := n1_; have HB := n2_; have HO244 := n3_; clear n0_ n1_ n2_ n3_; clear ho hb hg hat))
                  go_ret
                  exact ⟨_, by first | rfl | (simp [errW_none, errW_some] <;> rfl) | (simp [*, errW_none, errW_some] <;> rfl), by (with_reducible repeat (first | apply Kd.R_alloc | apply Kd.R_drewN | apply Kd.R_drew)); exact Kd.R_mono HO244.out (fun _ hk => trivial), by repeat (first | (with_reducible first | exact HB.out | apply below_alloc | apply pw_below_drewN | apply below_drew1) | exact HB.out)⟩
                · rw [if_neg c21] at H
                  exact absurd H (by simp)
              · rw [if_neg c19] at H
                have c19b0 : (a0 == 8) = false := beq_eq_false_iff_ne.mpr c19
                have c19b1 : (a0 != 8) = true := bne_iff_ne.mpr c19
                by_cases c27 : a0 = 14
                · rw [if_pos c27] at H
                  have c27b0 : (a0 == 14) = true := beq_iff_eq.mpr c27
                  have c27b1 : (a0 != 14) = false := bne_eq_false_iff_eq.mpr c27
                  clear c27
                  obtain ⟨y245, hy245⟩ : ∃ y_ : List (S52), y_ = (([(⟨0, (-1)⟩ : S52), (⟨(-1), 0⟩ : S52), (⟨1, 0⟩ : S52), (⟨0, 1⟩ : S52)] : List (S52))) := ⟨_, rfl⟩
                  replace H : (some y245) = some r := by first | (rw [hy245]; with_reducible exact H) | (have H2_ := (Option.bind_some _ _).symm.trans H; rw [hy245]; with_reducible exact H2_) | (have H2_ := (Option.bind_some _ _).symm.trans H; with_reducible exact H2_) | with_reducible exact H | (rw [hy245]; exact H) | exact H
                  have Ny245 := Aside0.mk hy245
                  clear hy245
                  obtain rfl := Option.some.inj H
                  go_wp2_with (first | ((with_reducible refine gate_dst (N := 48) rfl ?_); refine Kd.R_lit k52 _ 52 ?hg (N := 48) ?hd (xs := ([(⟨0, (-1)⟩ : S52), (⟨(-1), 0⟩ : S52), (⟨1, 0⟩ : S52), (⟨0, 1⟩ : S52)] : List (S52))) (inner := [.int .i64 0, .int .i64 (-1), .int .i64 (-1), .int .i64 0, .int .i64 1, .int .i64 0, .int .i64 0, .int .i64 1]) (ok := fun _ => True) (okp := fun _ => True) ?hr ?hp (fun _ hk => hk) trivial (Below.refl _ _) (Nat.le_refl _) (by simp) ?_; (case hd => rfl); (case hg => rfl); (case hr => first | (go_simp; done) | (go_simp; rfl)); (case hp => exact (Reps.c2 (show Kd.M k52 _ _ _ (⟨0, (-1)⟩ : S52) [.int .i64 0, .int .i64 (-1)] from (k52_mkM _ _ _ (⟨0, (-1)⟩ : S52) )) (Reps.c2 (show Kd.M k52 _ _ _ (⟨(-1), 0⟩ : S52) [.int .i64 (-1), .int .i64 0] from (k52_mkM _ _ _ (⟨(-1), 0⟩ : S52) )) (Reps.c2 (show Kd.M k52 _ _ _ (⟨1, 0⟩ : S52) [.int .i64 1, .int .i64 0] from (k52_mkM _ _ _ (⟨1, 0⟩ : S52) )) (Reps.c2 (show Kd.M k52 _ _ _ (⟨0, 1⟩ : S52) [.int .i64 0, .int .i64 1] from (k52_mkM _ _ _ (⟨0, 1⟩ : S52) )) (Reps.none _ _)))))); intro v246 w28 ho29 hb hg_ hnew_; clear hg_ hnew_; (first | rw [← Ny245.out] at ho29 | (simp only [Int.reduceToNat] at ho29; rw [← Ny245.out] at ho29)); have n0_ := Aside0.mk (Kd.R_elder' (by (with_reducible repeat (first | apply Kd.R_alloc | apply Kd.R_drewN | apply Kd.R_drew)); exact HO_3.out) (Kd.R_base ho29) hb); have n1_ := Aside0.mk (Kd.R_lower (Kd.R_new' ho29 (Kd.R_lt (by (with_reducible repeat (first | apply Kd.R_alloc | apply Kd.R_drewN | apply Kd.R_drew)); exact HO_3.out))) (below_size (by repeat (first | (with_reducible first | exact HB.out | apply below_alloc | apply pw_below_drewN | apply below_drew1) | exact HB.out)))); have n2_ := Aside0.mk (below_step (by repeat (first | (with_reducible first | exact HB.out | apply below_alloc | apply pw_below_drewN | apply below_drew1) | exact HB.out)) hb); clear HO_3; clear HB; have HO_3 := n0_; have HO247 := n1_; have HB := n2_; clear n0_ n1_ n2_; clear hb ho29))
                  go_ret
                  exact ⟨_, by first | rfl | (simp [errW_none, errW_some] <;> rfl) | (simp [*, errW_none, errW_some] <;> rfl), by (with_reducible repeat (first | apply Kd.R_alloc | apply Kd.R_drewN | apply Kd.R_drew)); exact Kd.R_mono HO247.out (fun _ hk => trivial), by repeat (first | (with_reducible first | exact HB.out | apply below_alloc | apply pw_below_drewN | apply below_drew1) | exact HB.out)⟩
                · rw [if_neg c27] at H
                  have c27b0 : (a0 == 14) = false := beq_eq_false_iff_ne.mpr c27
                  have c27b1 : (a0 != 14) = true := bne_iff_ne.mpr c27
                  by_cases c30 : a0 = 15
                  · rw [if_pos c30] at H
                    have c30b0 : (a0 == 15) = true := beq_iff_eq.mpr c30
                    have c30b1 : (a0 != 15) = false := bne_eq_false_iff_eq.mpr c30
                    clear c30
                    obtain ⟨y248, hy248⟩ : ∃ y_ : List (S52), y_ = (([(⟨(-1), (-1)⟩ : S52), (⟨1, (-1)⟩ : S52), (⟨(-1), 1⟩ : S52), (⟨1, 1⟩ : S52)] : List (S52))) := ⟨_, rfl⟩
                    replace H : (some y248) = some r := by first | (rw [hy248]; with_reducible exact H) | (have H2_ := (Option.bind_some _ _).symm.trans H; rw [hy248]; with_reducible exact H2_) | (have H2_ := (Option.bind_some _ _).symm.trans H; with_reducible exact H2_) | with_reducible exact H | (rw [hy248]; exact H) | exact H
                    have Ny248 := Aside0.mk hy248
                    clear hy248
                    obtain rfl := Option.some.inj H
                    go_wp2_with (first | ((with_reducible refine gate_dst (N := 55) rfl ?_); refine Kd.R_lit k52 _ 52 ?hg (N := 55) ?hd (xs := ([(⟨(-1), (-1)⟩ : S52), (⟨1, (-1)⟩ : S52), (⟨(-1), 1⟩ : S52), (⟨1, 1⟩ : S52)] : List (S52))) (inner := [.int .i64 (-1), .int .i64 (-1), .int .i64 1, .int .i64 (-1), .int .i64 (-1), .int .i64 1, .int .i64 1, .int .i64 1]) (ok := fun _ => True) (okp := fun _ => True) ?hr ?hp (fun _ hk => hk) trivial (Below.refl _ _) (Nat.le_refl _) (by simp) ?_; (case hd => rfl); (case hg => rfl); (case hr => first | (go_simp; done) | (go_simp; rfl)); (case hp => exact (Reps.c2 (show Kd.M k52 _ _ _ (⟨(-1), (-1)⟩ : S52) [.int .i64 (-1), .int .i64 (-1)] from (k52_mkM _ _ _ (⟨(-1), (-1)⟩ : S52) )) (Reps.c2 (show Kd.M k52 _ _ _ (⟨1, (-1)⟩ : S52) [.int .i64 1, .int .i64 (-1)] from (k52_mkM _ _ _ (⟨1, (-1)⟩ : S52) )) (Reps.c2 (show Kd.M k52 _ _ _ (⟨(-1), 1⟩ : S52) [.int .i64 (-1), .int .i64 1] from (k52_mkM _ _ _ (⟨(-1), 1⟩ : S52) )) (Reps.c2 (show Kd.M k52 _ _ _ (⟨1, 1⟩ : S52) [.int .i64 1, .int .i64 1] from (k52_mkM _ _ _ (⟨1, 1⟩ : S52) )) (Reps.none _ _)))))); intro v249 w31 ho32 hb hg_ hnew_; clear hg_ hnew_; (first | rw [← Ny248.out] at ho32 | (simp only [Int.reduceToNat] at ho32; rw [← Ny248.out] at ho32)); have n0_ := Aside0.mk (Kd.R_elder' (by (with_reducible repeat (first | apply Kd.R_alloc | apply Kd.R_drewN | apply Kd.R_drew)); exact HO_3.out) (Kd.R_base ho32) hb); have n1_ := Aside0.mk (Kd.R_lower (Kd.R_new' ho32 (Kd.R_lt (by (with_reducible repeat (first | apply Kd.R_alloc | apply Kd.R_drewN | apply Kd.R_drew)); exact HO_3.out))) (below_size (by repeat (first | (with_reducible first | exact HB.out | apply below_alloc | apply pw_below_drewN | apply below_drew1) | exact HB.out)))); have n2_ := Aside0.mk (below_step (by repeat (first | (with_reducible first | exact HB.out | apply below_alloc | apply pw_below_drewN | apply below_drew1) | exact HB.out)) hb); clear HO_3; clear HB; have HO_3 := n0_; have HO250 := n1_; have HB := n2_; clear n0_ n1_ n2_; clear hb ho32))
                    go_ret
                    exact ⟨_, by first | rfl | (simp [errW_none, errW_some] <;> rfl) | (simp [*, errW_none, errW_some] <;> rfl), by (with_reducible repeat (first | apply Kd.R_alloc | apply Kd.R_drewN | apply Kd.R_drew)); exact Kd.R_mono HO250.out (fun _ hk => trivial), by repeat (first | (with_reducible first | exact HB.out | apply below_alloc | apply pw_below_drewN | apply below_drew1) | exact HB.out)⟩
                  · rw [if_neg c30] at H
                    have c30b0 : (a0 == 15) = false := beq_eq_false_iff_ne.mpr c30
                    have c30b1 : (a0 != 15) = true := bne_iff_ne.mpr c30
                    obtain rfl := Option.some.inj H
                    go_wp2
                    go_ret
                    exact ⟨_, by first | rfl | (simp [errW_none, errW_some] <;> rfl) | (simp [*, errW_none, errW_some] <;> rfl), by (with_reducible repeat (first | apply Kd.R_alloc | apply Kd.R_drewN | apply Kd.R_drew)); exact HO_3.out, by repeat (first | (with_reducible first | exact HB.out | apply below_alloc | apply pw_below_drewN | apply below_drew1) | exact HB.out)⟩

/-! ### piece_Kind: function 34 -/
def piece_Kind.j0 : Nat → Int → Int → Bool → Option (Int)
  | 0, _, _, _ => none
  | k + 1, x0, x3, x20 => if x20 = true then (if x0 = 8 then (some 8) else (if x0 = 24 then (some 8) else (some 0))) else (some x3)
def piece_Kind.f (k : Nat) (a0 : Int) : Option (Int) := if a0 ≤ 0 then (piece_Kind.j0 k a0 (Go.bits .and .i64 (wrap64 (a0)) 15) true) else (if a0 > 31 then (piece_Kind.j0 k a0 (Go.bits .and .i64 (wrap64 (a0)) 15) true) else (if (Go.bits .and .i64 (wrap64 (a0)) 15) = 0 then (piece_Kind.j0 k a0 (Go.bits .and .i64 (wrap64 (a0)) 15) true) else (piece_Kind.j0 k a0 (Go.bits .and .i64 (wrap64 (a0)) 15) ((Go.bits .and .i64 (wrap64 (a0)) 15) == 13))))
theorem piece_Kind.mono_l : ∀ k, (∀ y0 y1 y2, LeO (piece_Kind.j0 k y0 y1 y2) (piece_Kind.j0 (k + 1) y0 y1 y2))
  | 0 => fun _ _ _ r h => by simp [piece_Kind.j0] at h
  | k + 1 => by
    have ih0 := piece_Kind.mono_l k
    · intro y0 y1 y2
      unfold piece_Kind.j0
      repeat' first
      | (with_reducible exact ih0 _ _ _)
      | (with_reducible exact LeO.refl _)
      | (with_reducible exact LeO.none _)
      | (with_reducible refine LeO.ite ?_ ?_)
      | (with_reducible refine LeO.bind ?_ (fun _ => ?_))
      | exact ih0 _ _ _
      | exact LeO.none _
      | refine LeO.ite ?_ ?_
      | refine LeO.bind ?_ (fun _ => ?_)
theorem piece_Kind.mono : ∀ a0 k, LeO (piece_Kind.f k a0) (piece_Kind.f (k + 1) a0) := by
  intro a0 k
  have ih0 := piece_Kind.mono_l k
  unfold piece_Kind.f
  repeat' first
      | (with_reducible exact ih0 _ _ _)
      | (with_reducible exact LeO.refl _)
      | (with_reducible exact LeO.none _)
      | (with_reducible refine LeO.ite ?_ ?_)
      | (with_reducible refine LeO.bind ?_ (fun _ => ?_))
      | exact ih0 _ _ _
      | exact LeO.none _
      | refine LeO.ite ?_ ?_
      | refine LeO.bind ?_ (fun _ => ?_)
set_option maxHeartbeats 8000000 in
set_option maxRecDepth 100000 in
theorem piece_Kind.calls (k : Nat) (a0 : Int) (r : Int) (w : World) (h : piece_Kind.f k a0 = some r) :
    Calls Tryd.prog 34 #[.int .i8 a0] w fun e w' => e = .returned (.int .i64 r) ∧ Drawn0 w w' := by
  have H : (if a0 ≤ 0 then (piece_Kind.j0 k a0 (Go.bits .and .i64 (wrap64 (a0)) 15) true) else (if a0 > 31 then (piece_Kind.j0 k a0 (Go.bits .and .i64 (wrap64 (a0)) 15) true) else (if (Go.bits .and .i64 (wrap64 (a0)) 15) = 0 then (piece_Kind.j0 k a0 (Go.bits .and .i64 (wrap64 (a0)) 15) true) else (piece_Kind.j0 k a0 (Go.bits .and .i64 (wrap64 (a0)) 15) ((Go.bits .and .i64 (wrap64 (a0)) 15) == 13))))) = some r := h
  clear h
  have HC2 := Aside0.mk H
  clear H
  go_enter Tryd.func34, Tryd.ntmps34
  go_upto_region 2 with (fail)
  go_cut [20] (fun v20 wc => ∃ (kq : Nat) (x20_1 : Bool), v20 = .bool x20_1 ∧ Aside0 (piece_Kind.j0 kq a0 (Go.bits .and .i64 (wrap64 (a0)) 15) x20_1 = some r) ∧ Aside0 (kq ≤ k) ∧ Drawn0 w wc)
  case first =>
    have H := HC2.out
    clear HC2
    by_cases c3 : a0 ≤ 0
    · rw [if_pos c3] at H
      have c3b0 : decide (a0 ≤ 0) = true := decide_eq_true c3
      clear c3
      (first | rw [c3b0] | (simp only [i64_w, i32_w]; rw [c3b0]) | skip)
      have H' := Aside0.mk H
      clear H
      go_wp2
      go_meet
      case rel => exact ⟨_, (true), (by first | rfl | (simp; done) | (simp [*]; done)), H', ⟨by first | omega | exact Nat.le_refl _⟩, by repeat (first | exact Drawn0.refl _ | apply Drawn0.step)⟩
    · rw [if_neg c3] at H
      have c3b0 : decide (a0 ≤ 0) = false := decide_eq_false c3
      clear c3
      (first | rw [c3b0] | (simp only [i64_w, i32_w]; rw [c3b0]) | skip)
      by_cases c4 : a0 > 31
      · rw [if_pos c4] at H
        have c4b0 : decide (31 < a0) = true := decide_eq_true c4
        clear c4
        have H' := Aside0.mk H
        clear H
        go_wp2
        go_meet
        case rel => exact ⟨_, (true), (by first | rfl | (simp; done) | (simp [*]; done)), H', ⟨by first | omega | exact Nat.le_refl _⟩, by repeat (first | exact Drawn0.refl _ | apply Drawn0.step)⟩
      · rw [if_neg c4] at H
        have c4b0 : decide (31 < a0) = false := decide_eq_false c4
        clear c4
        by_cases c5 : (Go.bits .and .i64 (wrap64 (a0)) 15) = 0
        · rw [if_pos c5] at H
          have c5b0 : ((Go.bits .and .i64 (wrap64 (a0)) 15) == 0) = true := beq_iff_eq.mpr c5
          have c5b1 : ((Go.bits .and .i64 (wrap64 (a0)) 15) != 0) = false := bne_eq_false_iff_eq.mpr c5
          clear c5
          have H' := Aside0.mk H
          clear H
          go_wp2
          go_meet
          case rel => exact ⟨_, (true), (by first | rfl | (simp; done) | (simp [*]; done)), H', ⟨by first | omega | exact Nat.le_refl _⟩, by repeat (first | exact Drawn0.refl _ | apply Drawn0.step)⟩
        · rw [if_neg c5] at H
          have c5b0 : ((Go.bits .and .i64 (wrap64 (a0)) 15) == 0) = false := beq_eq_false_iff_ne.mpr c5
          have c5b1 : ((Go.bits .and .i64 (wrap64 (a0)) 15) != 0) = true := bne_iff_ne.mpr c5
          have H' := Aside0.mk H
          clear H
          go_wp2
          go_meet
          case rel => exact ⟨_, (((Go.bits .and .i64 (wrap64 (a0)) 15) == 13)), (by first | rfl | (simp; done) | (simp [*]; done)), H', ⟨by first | omega | exact Nat.le_refl _⟩, by repeat (first | exact Drawn0.refl _ | apply Drawn0.step)⟩
  case rest =>
    clear HC2
    try clear p2
    try clear c3
    try clear c3b0
    try clear c4
    try clear c4b0
    try clear c5
    try clear c5b0
    try clear c5b1
    obtain ⟨kq, x20_1, rfl, HA, HJ1, ⟨mc1, rfl⟩⟩ := hcut
    cases kq with
    | zero => exact absurd HA.out (by simp [piece_Kind.j0])
    | succ kj1 =>
      have H := HA.out
      clear HA
      simp only [piece_Kind.j0] at H
      by_cases c6 : x20_1 = true
      · subst c6
        have H1 : (if a0 = 8 then (some 8) else (if a0 = 24 then (some 8) else (some 0))) = some r := by rw [if_pos rfl] at H; exact H
        clear H
        have H := H1
        clear H1
        by_cases c7 : a0 = 8
        · rw [if_pos c7] at H
          have c7b0 : (a0 == 8) = true := beq_iff_eq.mpr c7
          have c7b1 : (a0 != 8) = false := bne_eq_false_iff_eq.mpr c7
          clear c7
          obtain rfl := Option.some.inj H
          go_wp2
          go_ret
          exact ⟨by first | rfl | (simp; done) | (simp [*]; done), by repeat (first | exact Drawn0.refl _ | apply Drawn0.step)⟩
        · rw [if_neg c7] at H
          have c7b0 : (a0 == 8) = false := beq_eq_false_iff_ne.mpr c7
          have c7b1 : (a0 != 8) = true := bne_iff_ne.mpr c7
          by_cases c8 : a0 = 24
          · rw [if_pos c8] at H
            have c8b0 : (a0 == 24) = true := beq_iff_eq.mpr c8
            have c8b1 : (a0 != 24) = false := bne_eq_false_iff_eq.mpr c8
            clear c8
            obtain rfl := Option.some.inj H
            go_wp2
            go_ret
            exact ⟨by first | rfl | (simp; done) | (simp [*]; done), by repeat (first | exact Drawn0.refl _ | apply Drawn0.step)⟩
          · rw [if_neg c8] at H
            have c8b0 : (a0 == 24) = false := beq_eq_false_iff_ne.mpr c8
            have c8b1 : (a0 != 24) = true := bne_iff_ne.mpr c8
            obtain rfl := Option.some.inj H
            go_wp2
            go_ret
            exact ⟨by first | rfl | (simp; done) | (simp [*]; done), by repeat (first | exact Drawn0.refl _ | apply Drawn0.step)⟩
      · replace c6 := Bool.eq_false_iff.mpr c6
        subst c6
        have H1 : (some (Go.bits .and .i64 (wrap64 (a0)) 15)) = some r := by rw [if_neg (show ¬ (false = true) by decide)] at H; exact H
        clear H
        have H := H1
        clear H1
        obtain rfl := Option.some.inj H
        go_wp2
        go_ret
        exact ⟨by first | rfl | (simp; done) | (simp [*]; done), by repeat (first | exact Drawn0.refl _ | apply Drawn0.step)⟩

/-! ### step_Dir_Turn: function 35 -/
def step_Dir_Turn.f (a0_0 : Int) (a0_1 : Int) (a1 : Int) : Option (Int × Int) := if a1 = 1 then (some (wrap64 (-a0_0), wrap64 (-a0_1))) else (some (a0_0, a0_1))
set_option maxHeartbeats 8000000 in
set_option maxRecDepth 100000 in
theorem step_Dir_Turn.calls (a0_0 : Int) (a0_1 : Int) (a1 : Int) (r1 : Int) (r2 : Int) (w : World) (h : step_Dir_Turn.f a0_0 a0_1 a1 = some (r1, r2)) :
    Calls Tryd.prog 35 #[.agg #[.int .i64 a0_0, .int .i64 a0_1], .int .i64 a1] w fun e w' => e = .returned (.agg #[.int .i64 r1, .int .i64 r2]) ∧ Below w.heap.size w w' := by
  have hu52 := Tryd.underlying52
  have HB := Aside0.mk (Below.refl w.heap.size w)
  have H : (if a1 = 1 then (some (wrap64 (-a0_0), wrap64 (-a0_1))) else (some (a0_0, a0_1))) = some (r1, r2) := h
  clear h
  by_cases c3 : a1 = 1
  · rw [if_pos c3] at H
    have c3b0 : (a1 == 1) = true := beq_iff_eq.mpr c3
    have c3b1 : (a1 != 1) = false := bne_eq_false_iff_eq.mpr c3
    clear c3
    simp only [Option.some.injEq, Prod.mk.injEq] at H
    obtain ⟨rfl, rfl⟩ := H
    go_enter Tryd.func35, Tryd.ntmps35
    go_wp2_with (first | ((with_reducible refine gate_dst (N := 2) rfl ?_); refine box_event ?hg (N := 2) ?hd (cs := #[.int .i64 a0_0, .int .i64 a0_1]) (t := 52) ?hr ?_; (case hd => rfl); (case hg => rfl); (case hr => first | (go_simp; done) | (go_simp; rfl)); intro gb251 hg w4 hbox hb; have n0_ := Aside0.mk (below_step (by repeat (first | (with_reducible first | exact HB.out | apply below_alloc | apply pw_below_drewN | apply below_drew1) | exact HB.out)) hb); have n1_ := Aside0.mk (hbox); have n2_ := Aside0.mk ((by rw [hg]; exact (below_size (by repeat (first | (with_reducible first | exact HB.out | apply below_alloc | apply pw_below_drewN | apply below_drew1) | exact HB.out))) : w.heap.size ≤ gb251)); have n3_ := Aside0.mk ((by rw [hg]; exact (below_size (by repeat (first | (with_reducible first | exact HB.out | apply below_alloc | apply pw_below_drewN | apply below_drew1) | exact HB.out))) : w.heap.size ≤ gb251)); clear HB; have HB := n0_; have BK251 := n1_; have GW251 := n2_; have GE251 := n3_; clear n0_ n1_ n2_ n3_; clear hb hbox hg) | ((with_reducible refine gate_dst (N := 4) rfl ?_); refine box_event ?hg (N := 4) ?hd (cs := #[.int .i64 0, .int .i64 0]) (t := 52) ?hr ?_; (case hd => rfl); (case hg => rfl); (case hr => first | (go_simp; done) | (go_simp; rfl)); intro gb252 hg w5 hbox hb; have n0_ := Aside0.mk (blk_below (g := gb251) (o := .cells #[.int .i64 a0_0, .int .i64 a0_1] 52 (0, 0)) (by (with_reducible repeat (first | refine blk_drewN ?_ _ | refine blk_drew ?_ | refine blk_alloc ?_ _)); exact BK251.out) hb); have n1_ := Aside0.mk (below_step (by repeat (first | (with_reducible first | exact HB.out | apply below_alloc | apply pw_below_drewN | apply below_drew1 | refine below_set ?_ GE251.out) | exact HB.out)) hb); have n2_ := Aside0.mk (hbox); have n3_ := Aside0.mk ((by rw [hg]; exact (below_size (by repeat (first | (with_reducible first | exact HB.out | apply below_alloc | apply pw_below_drewN | apply below_drew1 | refine below_set ?_ GE251.out) | exact HB.out))) : w.heap.size ≤ gb252)); have n4_ := Aside0.mk ((by rw [hg]; exact (below_size (by repeat (first | (with_reducible first | exact HB.out | apply below_alloc | apply pw_below_drewN | apply below_drew1 | refine below_set ?_ GE251.out) | exact HB.out))) : w.heap.size ≤ gb252)); have n5_ := Aside0.mk ((by rw [hg]; exact Nat.ne_of_lt (blk_lt (g := gb251) (o := .cells #[.int .i64 a0_0, .int .i64 a0_1] 52 (0, 0)) (by (with_reducible repeat (first | refine blk_drewN ?_ _ | refine blk_drew ?_ | refine blk_alloc ?_ _)); exact BK251.out)) : gb251 ≠ gb252)); have n6_ := Aside0.mk ((by rw [hg]; exact Nat.ne_of_gt (blk_lt (g := gb251) (o := .cells #[.int .i64 a0_0, .int .i64 a0_1] 52 (0, 0)) (by (with_reducible repeat (first | refine blk_drewN ?_ _ | refine blk_drew ?_ | refine blk_alloc ?_ _)); exact BK251.out)) : gb252 ≠ gb251)); clear BK251; clear HB; have BK251 := n0_; have HB := n1_; have BK252 := n2_; have GW252 := n3_; have GE252 := n4_; have NB251_252 := n5_; have NB252_251 := n6_; clear n0_ n1_ n2_ n3_ n4_ n5_ n6_; clear hb hbox hg; have hnb6 := NB251_252.out; have hnc6 := NB252_251.out; have hcz7_0 : w5.cell? ⟨gb251, 0, none⟩ = some (.int .i64 a0_0) := (blk_cell BK251.out 0).trans rfl; have hcz7_1 : w5.cell? ⟨gb251, 1, none⟩ = some (.int .i64 a0_1) := (blk_cell BK251.out 1).trans rfl; have hfz7_0 := blk_frozen BK251.out 0; have hfz7_1 := blk_frozen BK251.out 1; have hcz8_0 : w5.cell? ⟨gb252, 0, none⟩ = some (.int .i64 0) := (blk_cell BK252.out 0).trans rfl; have hcz8_1 : w5.cell? ⟨gb252, 1, none⟩ = some (.int .i64 0) := (blk_cell BK252.out 1).trans rfl; have hfz8_0 := blk_frozen BK252.out 0; have hfz8_1 := blk_frozen BK252.out 1))
    refine bodyPost_ret (results_cell_row rfl _ _ gb252 52 #[.int .i64 (wrap64 (-a0_0)), .int .i64 (wrap64 (-a0_1))] (0, 0) _ rfl (by (with_reducible repeat (first | refine blk_drewN ?_ _ | refine blk_drew ?_ | refine blk_alloc ?_ _)); refine blk_put (cs := #[.int .i64 (wrap64 (-a0_0)), .int .i64 0]) ?_ 1 _ (by first | rfl | (simp [*]; done)); (with_reducible repeat (first | refine blk_drewN ?_ _ | refine blk_drew ?_ | refine blk_alloc ?_ _)); refine blk_put (cs := #[.int .i64 0, .int .i64 0]) ?_ 0 _ (by first | rfl | (simp [*]; done)); (with_reducible repeat (first | refine blk_drewN ?_ _ | refine blk_drew ?_ | refine blk_alloc ?_ _)); exact BK252.out) Tryd.underlying52 rfl (by kernel_rfl)) rfl ?_
    exact ⟨by first | rfl | (simp [errW_none, errW_some] <;> rfl) | (simp [*, errW_none, errW_some] <;> rfl) | (simp [*, errW_none, errW_some]; generalize ByteArray.toList _ = q_; cases q_ <;> rfl), by repeat (first | (with_reducible first | exact HB.out | apply below_alloc | apply pw_below_drewN | apply below_drew1 | refine below_set ?_ GE251.out | refine below_set ?_ GE252.out) | exact HB.out)⟩
  · rw [if_neg c3] at H
    have c3b0 : (a1 == 1) = false := beq_eq_false_iff_ne.mpr c3
    have c3b1 : (a1 != 1) = true := bne_iff_ne.mpr c3
    simp only [Option.some.injEq, Prod.mk.injEq] at H
    obtain ⟨rfl, rfl⟩ := H
    go_enter Tryd.func35, Tryd.ntmps35
    go_wp2_with (first | ((with_reducible refine gate_dst (N := 2) rfl ?_); refine box_event ?hg (N := 2) ?hd (cs := #[.int .i64 a0_0, .int .i64 a0_1]) (t := 52) ?hr ?_; (case hd => rfl); (case hg => rfl); (case hr => first | (go_simp; done) | (go_simp; rfl)); intro gb251 hg w9 hbox hb; have n0_ := Aside0.mk (below_step (by repeat (first | (with_reducible first | exact HB.out | apply below_alloc | apply pw_below_drewN | apply below_drew1) | exact HB.out)) hb); have n1_ := Aside0.mk (hbox); have n2_ := Aside0.mk ((by rw [hg]; exact (below_size (by repeat (first | (with_reducible first | exact HB.out | apply below_alloc | apply pw_below_drewN | apply below_drew1) | exact HB.out))) : w.heap.size ≤ gb251)); have n3_ := Aside0.mk ((by rw [hg]; exact (below_size (by repeat (first | (with_reducible first | exact HB.out | apply below_alloc | apply pw_below_drewN | apply below_drew1) | exact HB.out))) : w.heap.size ≤ gb251)); clear HB; have HB := n0_; have BK251 := n1_; have GW251 := n2_; have GE251 := n3_; clear n0_ n1_ n2_ n3_; clear hb hbox hg) | ((with_reducible refine gate_dst (N := 4) rfl ?_); refine box_event ?hg (N := 4) ?hd (cs := #[.int .i64 0, .int .i64 0]) (t := 52) ?hr ?_; (case hd => rfl); (case hg => rfl); (case hr => first | (go_simp; done) | (go_simp; rfl)); intro gb252 hg w10 hbox hb; have n0_ := Aside0.mk (blk_below (g := gb251) (o := .cells #[.int .i64 a0_0, .int .i64 a0_1] 52 (0, 0)) (by (with_reducible repeat (first | refine blk_drewN ?_ _ | refine blk_drew ?_ | refine blk_alloc ?_ _)); exact BK251.out) hb); have n1_ := Aside0.mk (below_step (by repeat (first | (with_reducible first | exact HB.out | apply below_alloc | apply pw_below_drewN | apply below_drew1 | refine below_set ?_ GE251.out) | exact HB.out)) hb); have n2_ := Aside0.mk (hbox); have n3_ := Aside0.mk ((by rw [hg]; exact (below_size (by repeat (first | (with_reducible first | exact HB.out | apply below_alloc | apply pw_below_drewN | apply below_drew1 | refine below_set ?_ GE251.out) | exact HB.out))) : w.heap.size ≤ gb252)); have n4_ := Aside0.mk ((by rw [hg]; exact (below_size (by repeat (first | (with_reducible first | exact HB.out | apply below_alloc | apply pw_below_drewN | apply below_drew1 | refine below_set ?_ GE251.out) | exact HB.out))) : w.heap.size ≤ gb252)); have n5_ := Aside0.mk ((by rw [hg]; exact Nat.ne_of_lt (blk_lt (g := gb251) (o := .cells #[.int .i64 a0_0, .int .i64 a0_1] 52 (0, 0)) (by (with_reducible repeat (first | refine blk_drewN ?_ _ | refine blk_drew ?_ | refine blk_alloc ?_ _)); exact BK251.out)) : gb251 ≠ gb252)); have n6_ := Aside0.mk ((by rw [hg]; exact Nat.ne_of_gt (blk_lt (g := gb251) (o := .cells #[.int .i64 a0_0, .int .i64 a0_1] 52 (0, 0)) (by (with_reducible repeat (first | refine blk_drewN ?_ _ | refine blk_drew ?_ | refine blk_alloc ?_ _)); exact BK251.out)) : gb252 ≠ gb251)); clear BK251; clear HB; have BK251 := n0_; have HB := n1_; have BK252 := n2_; have GW252 := n3_; have GE252 := n4_; have NB251_252 := n5_; have NB252_251 := n6_; clear n0_ n1_ n2_ n3_ n4_ n5_ n6_; clear hb hbox hg; have hnb11 := NB251_252.out; have hnc11 := NB252_251.out; have hcz12_0 : w10.cell? ⟨gb251, 0, none⟩ = some (.int .i64 a0_0) := (blk_cell BK251.out 0).trans rfl; have hcz12_1 : w10.cell? ⟨gb251, 1, none⟩ = some (.int .i64 a0_1) := (blk_cell BK251.out 1).trans rfl; have hfz12_0 := blk_frozen BK251.out 0; have hfz12_1 := blk_frozen BK251.out 1; have hcz13_0 : w10.cell? ⟨gb252, 0, none⟩ = some (.int .i64 0) := (blk_cell BK252.out 0).trans rfl; have hcz13_1 : w10.cell? ⟨gb252, 1, none⟩ = some (.int .i64 0) := (blk_cell BK252.out 1).trans rfl; have hfz13_0 := blk_frozen BK252.out 0; have hfz13_1 := blk_frozen BK252.out 1))
    refine bodyPost_ret (results_cell_row rfl _ _ gb252 52 #[.int .i64 a0_0, .int .i64 a0_1] (0, 0) _ rfl (by (with_reducible repeat (first | refine blk_drewN ?_ _ | refine blk_drew ?_ | refine blk_alloc ?_ _)); refine blk_put (cs := #[.int .i64 a0_0, .int .i64 0]) ?_ 1 _ (by first | rfl | (simp [*]; done)); (with_reducible repeat (first | refine blk_drewN ?_ _ | refine blk_drew ?_ | refine blk_alloc ?_ _)); refine blk_put (cs := #[.int .i64 0, .int .i64 0]) ?_ 0 _ (by first | rfl | (simp [*]; done)); (with_reducible repeat (first | refine blk_drewN ?_ _ | refine blk_drew ?_ | refine blk_alloc ?_ _)); exact BK252.out) Tryd.underlying52 rfl (by kernel_rfl)) rfl ?_
    exact ⟨by first | rfl | (simp [errW_none, errW_some] <;> rfl) | (simp [*, errW_none, errW_some] <;> rfl) | (simp [*, errW_none, errW_some]; generalize ByteArray.toList _ = q_; cases q_ <;> rfl), by repeat (first | (with_reducible first | exact HB.out | apply below_alloc | apply pw_below_drewN | apply below_drew1 | refine below_set ?_ GE251.out | refine below_set ?_ GE252.out) | exact HB.out)⟩

/-! ### piece_Side: function 36 -/
def piece_Side.f (k : Nat) (a0 : Int) : Option (Int) := (piece_Kind.f k a0).bind fun t253 => (if t253 = 0 then (some (-1)) else (if a0 < 16 then (some 0) else (some 1)))
theorem piece_Side.mono : ∀ a0 k, LeO (piece_Side.f k a0) (piece_Side.f (k + 1) a0) := by
  intro a0 k
  unfold piece_Side.f
  repeat' first
      | (with_reducible exact piece_Kind.mono _ _)
      | (with_reducible exact LeO.refl _)
      | (with_reducible exact LeO.none _)
      | (with_reducible refine LeO.ite ?_ ?_)
      | (with_reducible refine LeO.bind ?_ (fun _ => ?_))
      | exact piece_Kind.mono _ _
      | exact LeO.none _
      | refine LeO.ite ?_ ?_
      | refine LeO.bind ?_ (fun _ => ?_)
set_option maxHeartbeats 8000000 in
set_option maxRecDepth 100000 in
theorem piece_Side.calls (k : Nat) (a0 : Int) (r : Int) (w : World) (h : piece_Side.f k a0 = some r) :
    Calls Tryd.prog 36 #[.int .i8 a0] w fun e w' => e = .returned (.int .i64 r) ∧ Drawn0 w w' := by
  have H : ((piece_Kind.f k a0).bind fun t253 => (if t253 = 0 then (some (-1)) else (if a0 < 16 then (some 0) else (some 1)))) = some r := h
  clear h
  replace H := Option.bind_eq_some_iff.mp H
  obtain ⟨t253, A20, H⟩ := H
  replace H : (if t253 = 0 then (some (-1)) else (if a0 < 16 then (some 0) else (some 1))) = some r := H
  have A2 := Aside0.mk A20
  clear A20
  by_cases c3 : t253 = 0
  · rw [if_pos c3] at H
    have c3b0 : (t253 == 0) = true := beq_iff_eq.mpr c3
    have c3b1 : (t253 != 0) = false := bne_eq_false_iff_eq.mpr c3
    clear c3
    obtain rfl := Option.some.inj H
    go_enter Tryd.func36, Tryd.ntmps36
    go_wp2_with (first | ((with_reducible refine gate_callee (f := 34) rfl ?_); refine goesL_ (some 5) rfl rfl Tryd.func34 (by kernel_rfl) rfl #[.int .i8 a0] rfl (by (try simp only [List.map_toArray, List.map_cons, List.map_nil]); first | done | rfl | (simp only [List.length_drop, List.length_take]; rfl)) ?_; (with_reducible refine (piece_Kind.calls k a0 t253 _ A2.out).mono ?_); rintro e w' ⟨rfl, ⟨nd, rfl⟩⟩; refine ⟨_, rfl, ?_⟩))
    go_ret
    exact ⟨by first | rfl | (simp; done) | (simp [*]; done), by repeat (first | exact Drawn0.refl _ | apply Drawn0.step)⟩
  · rw [if_neg c3] at H
    have c3b0 : (t253 == 0) = false := beq_eq_false_iff_ne.mpr c3
    have c3b1 : (t253 != 0) = true := bne_iff_ne.mpr c3
    by_cases c4 : a0 < 16
    · rw [if_pos c4] at H
      have c4b0 : decide (a0 < 16) = true := decide_eq_true c4
      clear c4
      obtain rfl := Option.some.inj H
      go_enter Tryd.func36, Tryd.ntmps36
      go_wp2_with (first | ((with_reducible refine gate_callee (f := 34) rfl ?_); refine goesL_ (some 5) rfl rfl Tryd.func34 (by kernel_rfl) rfl #[.int .i8 a0] rfl (by (try simp only [List.map_toArray, List.map_cons, List.map_nil]); first | done | rfl | (simp only [List.length_drop, List.length_take]; rfl)) ?_; (with_reducible refine (piece_Kind.calls k a0 t253 _ A2.out).mono ?_); rintro e w' ⟨rfl, ⟨nd, rfl⟩⟩; refine ⟨_, rfl, ?_⟩))
      go_ret
      exact ⟨by first | rfl | (simp; done) | (simp [*]; done), by repeat (first | exact Drawn0.refl _ | apply Drawn0.step)⟩
    · rw [if_neg c4] at H
      have c4b0 : decide (a0 < 16) = false := decide_eq_false c4
      clear c4
      obtain rfl := Option.some.inj H
      go_enter Tryd.func36, Tryd.ntmps36
      go_wp2_with (first | ((with_reducible refine gate_callee (f := 34) rfl ?_); refine goesL_ (some 5) rfl rfl Tryd.func34 (by kernel_rfl) rfl #[.int .i8 a0] rfl (by (try simp only [List.map_toArray, List.map_cons, List.map_nil]); first | done | rfl | (simp only [List.length_drop, List.length_take]; rfl)) ?_; (with_reducible refine (piece_Kind.calls k a0 t253 _ A2.out).mono ?_); rintro e w' ⟨rfl, ⟨nd, rfl⟩⟩; refine ⟨_, rfl, ?_⟩))
      go_ret
      exact ⟨by first | rfl | (simp; done) | (simp [*]; done), by repeat (first | exact Drawn0.refl _ | apply Drawn0.step)⟩

end Go.Proofs.YtmoeodcmfjnihaaDoor.Pa
