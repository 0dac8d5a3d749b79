-- Printed by a program of this session: the kit's printer, with contracts of this session's own among its functions.
import Derived.Test.YtnmfkhnddnohjaaPax0
import Derived.Test.YtnmfkhnddnohjaaPax1
import Derived.Test.YtnmfkhnddnohjaaPax2
import Derived.Test.YtnmfkhnddnohjaaPax5
namespace Go.Proofs.Ytnmfkhnddnohjaa.Pa
open Go.RowKit Go.Proofs.YtnmfkhnddnohjaaW.PrintWords Go.Proofs.YtnmfkhnddnohjaaW.PrintLast Go.Proofs.YtnmfkhnddnohjaaW.PrintMore
attribute [local go_sem] max2_int min2_int max_two min_two max_three min_three max_four min_four   -- for this text's walks alone
set_option linter.unusedVariables false
set_option linter.unusedSimpArgs false

/-! ### kakugyolaw02_PieceNames: function 9 -/
mutual
def kakugyolaw02_PieceNames.j0 : Nat → Int → Int → ByteArray → ByteArray → Bool → Option (Bool)
  | 0, _, _, _, _, _ => none
  | k + 1, x0, x1, x5, x6, x20 => if x20 = true then ((piece_Kind.f k x0).bind fun t197 => (if t197 = 0 then (some true) else (some (x5.toList != ([] : List UInt8))))) else (if 0 ≤ (wrap64 ((x5.size : Int) - 1)) then (if (wrap64 ((x5.size : Int) - 1)) < (x5.size : Int) then (if ((x5.toList == x6.toList) != (x0 == x1)) = true then (kakugyolaw02_PieceNames.j1 k x0 x5 true) else ((piece_Parse.f (wrap32 (bt x5 (wrap64 ((x5.size : Int) - 1)))) ((x5.size : Int) == 2)).bind fun t198 => (kakugyolaw02_PieceNames.j1 k x0 x5 (t198 != x0)))) else (none)) else (none))
def kakugyolaw02_PieceNames.j1 : Nat → Int → ByteArray → Bool → Option (Bool)
  | 0, _, _, _ => none
  | k + 1, x0, x5, x50 => if x50 = true then (some false) else ((piece_Side.f k x0).bind fun t199 => (if t199 = 1 then ((piece_Name.f k (IntKind.i8.wrap (x0 - 16))).bind fun t200 => ((kakugyoref02_Small.f k t200).bind fun t201 => (some (t201.toList == x5.toList)))) else (some true)))
end
def kakugyolaw02_PieceNames.f (k : Nat) (a0 : Int) (a1 : Int) : Option (Bool) := (kakugyolaw02_names.f k).bind fun t194 => (if t194 = true then ((piece_Name.f k a0).bind fun t195 => ((piece_Name.f k a1).bind fun t196 => (if t195.toList = ([] : List UInt8) then (kakugyolaw02_PieceNames.j0 k a0 a1 t195 t196 true) else (kakugyolaw02_PieceNames.j0 k a0 a1 t195 t196 (t196.toList == ([] : List UInt8)))))) else (some false))
theorem kakugyolaw02_PieceNames.mono_l : ∀ k, (∀ y0 y1 y2 y3 y4, LeO (kakugyolaw02_PieceNames.j0 k y0 y1 y2 y3 y4) (kakugyolaw02_PieceNames.j0 (k + 1) y0 y1 y2 y3 y4)) ∧ (∀ y0 y1 y2, LeO (kakugyolaw02_PieceNames.j1 k y0 y1 y2) (kakugyolaw02_PieceNames.j1 (k + 1) y0 y1 y2))
  | 0 => ⟨fun _ _ _ _ _ r h => by simp [kakugyolaw02_PieceNames.j0] at h, fun _ _ _ r h => by simp [kakugyolaw02_PieceNames.j1] at h⟩
  | k + 1 => by
    obtain ⟨ih0, ih1⟩ := kakugyolaw02_PieceNames.mono_l k
    refine ⟨?_, ?_⟩
    · intro y0 y1 y2 y3 y4
      unfold kakugyolaw02_PieceNames.j0
      repeat' first
      | (with_reducible exact ih0 _ _ _ _ _)
      | (with_reducible exact ih1 _ _ _)
      | (with_reducible exact kakugyolaw02_names.mono _)
      | (with_reducible exact kakugyoref02_Small.mono _ _)
      | (with_reducible exact piece_Kind.mono _ _)
      | (with_reducible exact piece_Name.mono _ _)
      | (with_reducible exact piece_Side.mono _ _)
      | (with_reducible exact LeO.refl _)
      | (with_reducible exact LeO.none _)
      | (with_reducible refine LeO.ite ?_ ?_)
      | (with_reducible refine LeO.bind ?_ (fun _ => ?_))
      | exact ih0 _ _ _ _ _
      | exact ih1 _ _ _
      | exact kakugyolaw02_names.mono _
      | exact kakugyoref02_Small.mono _ _
      | exact piece_Kind.mono _ _
      | exact piece_Name.mono _ _
      | exact piece_Side.mono _ _
      | exact LeO.none _
      | refine LeO.ite ?_ ?_
      | refine LeO.bind ?_ (fun _ => ?_)
    · intro y0 y1 y2
      unfold kakugyolaw02_PieceNames.j1
      repeat' first
      | (with_reducible exact ih0 _ _ _ _ _)
      | (with_reducible exact ih1 _ _ _)
      | (with_reducible exact kakugyolaw02_names.mono _)
      | (with_reducible exact kakugyoref02_Small.mono _ _)
      | (with_reducible exact piece_Kind.mono _ _)
      | (with_reducible exact piece_Name.mono _ _)
      | (with_reducible exact piece_Side.mono _ _)
      | (with_reducible exact LeO.refl _)
      | (with_reducible exact LeO.none _)
      | (with_reducible refine LeO.ite ?_ ?_)
      | (with_reducible refine LeO.bind ?_ (fun _ => ?_))
      | exact ih0 _ _ _ _ _
      | exact ih1 _ _ _
      | exact kakugyolaw02_names.mono _
      | exact kakugyoref02_Small.mono _ _
      | exact piece_Kind.mono _ _
      | exact piece_Name.mono _ _
      | exact piece_Side.mono _ _
      | exact LeO.none _
      | refine LeO.ite ?_ ?_
      | refine LeO.bind ?_ (fun _ => ?_)
theorem kakugyolaw02_PieceNames.mono : ∀ a0 a1 k, LeO (kakugyolaw02_PieceNames.f k a0 a1) (kakugyolaw02_PieceNames.f (k + 1) a0 a1) := by
  intro a0 a1 k
  obtain ⟨ih0, ih1⟩ := kakugyolaw02_PieceNames.mono_l k
  unfold kakugyolaw02_PieceNames.f
  repeat' first
      | (with_reducible exact ih0 _ _ _ _ _)
      | (with_reducible exact ih1 _ _ _)
      | (with_reducible exact kakugyolaw02_names.mono _)
      | (with_reducible exact kakugyoref02_Small.mono _ _)
      | (with_reducible exact piece_Kind.mono _ _)
      | (with_reducible exact piece_Name.mono _ _)
      | (with_reducible exact piece_Side.mono _ _)
      | (with_reducible exact LeO.refl _)
      | (with_reducible exact LeO.none _)
      | (with_reducible refine LeO.ite ?_ ?_)
      | (with_reducible refine LeO.bind ?_ (fun _ => ?_))
      | exact ih0 _ _ _ _ _
      | exact ih1 _ _ _
      | exact kakugyolaw02_names.mono _
      | exact kakugyoref02_Small.mono _ _
      | exact piece_Kind.mono _ _
      | exact piece_Name.mono _ _
      | exact piece_Side.mono _ _
      | exact LeO.none _
      | refine LeO.ite ?_ ?_
      | refine LeO.bind ?_ (fun _ => ?_)
set_option maxHeartbeats 8000000 in
set_option maxRecDepth 100000 in
theorem kakugyolaw02_PieceNames.calls (k : Nat) (a0 : Int) (a1 : Int) (r : Bool) (w : World) (h : kakugyolaw02_PieceNames.f k a0 a1 = some r) :
    Calls Try.prog 9 #[.int .i8 a0, .int .i8 a1] w fun e w' => e = .returned (.bool r) ∧ Below w.heap.size w w' := by
  have HB := Aside0.mk (Below.refl w.heap.size w)
  have H : ((kakugyolaw02_names.f k).bind fun t194 => (if t194 = true then ((piece_Name.f k a0).bind fun t195 => ((piece_Name.f k a1).bind fun t196 => (if t195.toList = ([] : List UInt8) then (kakugyolaw02_PieceNames.j0 k a0 a1 t195 t196 true) else (kakugyolaw02_PieceNames.j0 k a0 a1 t195 t196 (t196.toList == ([] : List UInt8)))))) else (some false))) = some r := h
  clear h
  replace H := Option.bind_eq_some_iff.mp H
  obtain ⟨t194, A30, H⟩ := H
  replace H : (if t194 = true then ((piece_Name.f k a0).bind fun t195 => ((piece_Name.f k a1).bind fun t196 => (if t195.toList = ([] : List UInt8) then (kakugyolaw02_PieceNames.j0 k a0 a1 t195 t196 true) else (kakugyolaw02_PieceNames.j0 k a0 a1 t195 t196 (t196.toList == ([] : List UInt8)))))) else (some false)) = some r := H
  have A3 := Aside0.mk A30
  clear A30
  by_cases c4 : t194 = true
  · subst c4
    have H1 : ((piece_Name.f k a0).bind fun t195 => ((piece_Name.f k a1).bind fun t196 => (if t195.toList = ([] : List UInt8) then (kakugyolaw02_PieceNames.j0 k a0 a1 t195 t196 true) else (kakugyolaw02_PieceNames.j0 k a0 a1 t195 t196 (t196.toList == ([] : List UInt8)))))) = some r := by rw [if_pos rfl] at H; exact H
    clear H
    have H := H1
    clear H1
    replace H := Option.bind_eq_some_iff.mp H
    obtain ⟨t195, A50, H⟩ := H
    replace H : ((piece_Name.f k a1).bind fun t196 => (if t195.toList = ([] : List UInt8) then (kakugyolaw02_PieceNames.j0 k a0 a1 t195 t196 true) else (kakugyolaw02_PieceNames.j0 k a0 a1 t195 t196 (t196.toList == ([] : List UInt8))))) = some r := H
    have A5 := Aside0.mk A50
    clear A50
    replace H := Option.bind_eq_some_iff.mp H
    obtain ⟨t196, A60, H⟩ := H
    replace H : (if t195.toList = ([] : List UInt8) then (kakugyolaw02_PieceNames.j0 k a0 a1 t195 t196 true) else (kakugyolaw02_PieceNames.j0 k a0 a1 t195 t196 (t196.toList == ([] : List UInt8)))) = some r := H
    have A6 := Aside0.mk A60
    clear A60
    have HC7 := Aside0.mk H
    clear H
    go_enter Try.func9, Try.ntmps9
    go_upto_region 4 with (first | ((with_reducible refine gate_callee (f := 10) rfl ?_); refine goesL_ (some 9) rfl rfl Try.func10 (by kernel_rfl) rfl #[] rfl (by (try simp only [List.map_toArray, List.map_cons, List.map_nil]); first | done | rfl | (simp only [List.length_drop, List.length_take]; rfl)) ?_; (with_reducible refine (kakugyolaw02_names.calls k  true _ A3.out).mono ?_); rintro e w8 ⟨rfl, hb⟩; refine ⟨_, rfl, ?_⟩; have n0_ := Aside0.mk (below_step (by repeat (first | (with_reducible first | exact HB.out | apply below_alloc | apply pw_below_drewN | apply below_drew1) | exact HB.out)) hb); clear HB; have HB := n0_; clear n0_; (try clear hb); (try clear hb2); (try clear hk); (try clear hi)) | ((with_reducible refine gate_callee (f := 15) rfl ?_); refine goesL_ (some 12) rfl rfl Try.func15 (by kernel_rfl) rfl #[.int .i8 a0] rfl (by (try simp only [List.map_toArray, List.map_cons, List.map_nil]); first | done | rfl | (simp only [List.length_drop, List.length_take]; rfl)) ?_; (with_reducible refine (piece_Name.calls k a0 t195 _ A5.out).mono ?_); rintro e w9 ⟨rfl, hb⟩; refine ⟨_, rfl, ?_⟩; have n0_ := Aside0.mk (below_step (by repeat (first | (with_reducible first | exact HB.out | apply below_alloc | apply pw_below_drewN | apply below_drew1) | exact HB.out)) hb); clear HB; have HB := n0_; clear n0_; (try clear hb); (try clear hb2); (try clear hk); (try clear hi)) | ((with_reducible refine gate_callee (f := 15) rfl ?_); refine goesL_ (some 14) rfl rfl Try.func15 (by kernel_rfl) rfl #[.int .i8 a1] rfl (by (try simp only [List.map_toArray, List.map_cons, List.map_nil]); first | done | rfl | (simp only [List.length_drop, List.length_take]; rfl)) ?_; (with_reducible refine (piece_Name.calls k a1 t196 _ A6.out).mono ?_); rintro e w10 ⟨rfl, hb⟩; refine ⟨_, rfl, ?_⟩; have n0_ := Aside0.mk (below_step (by repeat (first | (with_reducible first | exact HB.out | apply below_alloc | apply pw_below_drewN | apply below_drew1) | exact HB.out)) hb); clear HB; have HB := n0_; clear n0_; (try clear hb); (try clear hb2); (try clear hk); (try clear hi)))
    (try simp only [Act.put, List.setIfInBounds_toArray, List.set_cons_zero, List.set_cons_succ])
    go_cut [20] (fun v20 wc => ∃ (kq : Nat) (x20_6 : Bool), v20 = .bool x20_6 ∧ Aside0 (kakugyolaw02_PieceNames.j0 kq a0 a1 t195 t196 x20_6 = some r) ∧ Aside0 (kq ≤ k) ∧ Aside0 (Below w.heap.size w wc))
    case first =>
      have H := HC7.out
      clear HC7
      by_cases c11 : t195.toList = ([] : List UInt8)
      · rw [if_pos c11] at H
        have c11b0 : (t195.toList == ([] : List UInt8)) = true := beq_iff_eq.mpr c11
        have c11b1 : (t195.toList != ([] : List UInt8)) = false := bne_eq_false_iff_eq.mpr c11
        clear c11
        (first | rw [c11b0] | (simp only [i64_w, i32_w]; rw [c11b0]) | skip)
        have H' := Aside0.mk H
        clear H
        go_wp2
        go_meet
        case rel => exact ⟨_, (true), (by first | rfl | (simp; done) | (simp [*]; done)), H', ⟨by first | omega | exact Nat.le_refl _⟩, ⟨by repeat (first | (with_reducible first | exact HB.out | apply below_alloc | apply pw_below_drewN | apply below_drew1) | exact HB.out)⟩⟩
      · rw [if_neg c11] at H
        have c11b0 : (t195.toList == ([] : List UInt8)) = false := beq_eq_false_iff_ne.mpr c11
        have c11b1 : (t195.toList != ([] : List UInt8)) = true := bne_iff_ne.mpr c11
        (first | rw [c11b0] | (simp only [i64_w, i32_w]; rw [c11b0]) | skip)
        have H' := Aside0.mk H
        clear H
        go_wp2
        go_meet
        case rel => exact ⟨_, ((t196.toList == ([] : List UInt8))), (by first | rfl | (simp; done) | (simp [*]; done)), H', ⟨by first | omega | exact Nat.le_refl _⟩, ⟨by repeat (first | (with_reducible first | exact HB.out | apply below_alloc | apply pw_below_drewN | apply below_drew1) | exact HB.out)⟩⟩
    case rest =>
      clear HC7
      try clear c1
      try clear p2
      try clear c4
      try clear c9
      try clear c10
      try clear c11
      try clear c11b0
      try clear c11b1
      obtain ⟨kq, x20_6, rfl, HA, HJ6, HB⟩ := hcut
      cases kq with
      | zero => exact absurd HA.out (by simp [kakugyolaw02_PieceNames.j0])
      | succ kj6 =>
        have H := HA.out
        clear HA
        simp only [kakugyolaw02_PieceNames.j0] at H
        by_cases c12 : x20_6 = true
        · subst c12
          have H1 : ((piece_Kind.f kj6 a0).bind fun t197 => (if t197 = 0 then (some true) else (some (t195.toList != ([] : List UInt8))))) = some r := by rw [if_pos rfl] at H; exact H
          clear H
          have H := H1
          clear H1
          replace H := Option.bind_eq_some_iff.mp H
          obtain ⟨t197, A130, H⟩ := H
          replace H : (if t197 = 0 then (some true) else (some (t195.toList != ([] : List UInt8)))) = some r := H
          have A13 := Aside0.mk A130
          clear A130
          by_cases c14 : t197 = 0
          · rw [if_pos c14] at H
            have c14b0 : (t197 == 0) = true := beq_iff_eq.mpr c14
            have c14b1 : (t197 != 0) = false := bne_eq_false_iff_eq.mpr c14
            clear c14
            obtain rfl := Option.some.inj H
            go_wp2_with (first | ((with_reducible refine gate_callee (f := 11) rfl ?_); refine goesL_ (some 22) rfl rfl Try.func11 (by kernel_rfl) rfl #[.int .i8 a0] rfl (by (try simp only [List.map_toArray, List.map_cons, List.map_nil]); first | done | rfl | (simp only [List.length_drop, List.length_take]; rfl)) ?_; (with_reducible refine (piece_Kind.calls kj6 a0 t197 _ A13.out).mono ?_); rintro e w' ⟨rfl, ⟨nd, rfl⟩⟩; refine ⟨_, rfl, ?_⟩))
            go_ret
            exact ⟨by first | rfl | (simp [errW_none, errW_some] <;> rfl) | (simp [*, errW_none, errW_some] <;> rfl) | (simp [*, errW_none, errW_some]; generalize ByteArray.toList _ = q_; cases q_ <;> rfl), by repeat (first | (with_reducible first | exact HB.out | apply below_alloc | apply pw_below_drewN | apply below_drew1) | exact HB.out)⟩
          · rw [if_neg c14] at H
            have c14b0 : (t197 == 0) = false := beq_eq_false_iff_ne.mpr c14
            have c14b1 : (t197 != 0) = true := bne_iff_ne.mpr c14
            obtain rfl := Option.some.inj H
            go_wp2_with (first | ((with_reducible refine gate_callee (f := 11) rfl ?_); refine goesL_ (some 22) rfl rfl Try.func11 (by kernel_rfl) rfl #[.int .i8 a0] rfl (by (try simp only [List.map_toArray, List.map_cons, List.map_nil]); first | done | rfl | (simp only [List.length_drop, List.length_take]; rfl)) ?_; (with_reducible refine (piece_Kind.calls kj6 a0 t197 _ A13.out).mono ?_); rintro e w' ⟨rfl, ⟨nd, rfl⟩⟩; refine ⟨_, rfl, ?_⟩))
            go_ret
            exact ⟨by first | rfl | (simp [errW_none, errW_some] <;> rfl) | (simp [*, errW_none, errW_some] <;> rfl) | (simp [*, errW_none, errW_some]; generalize ByteArray.toList _ = q_; cases q_ <;> rfl), by repeat (first | (with_reducible first | exact HB.out | apply below_alloc | apply pw_below_drewN | apply below_drew1) | exact HB.out)⟩
        · replace c12 := Bool.eq_false_iff.mpr c12
          subst c12
          have H1 : (if 0 ≤ (wrap64 ((t195.size : Int) - 1)) then (if (wrap64 ((t195.size : Int) - 1)) < (t195.size : Int) then (if ((t195.toList == t196.toList) != (a0 == a1)) = true then (kakugyolaw02_PieceNames.j1 kj6 a0 t195 true) else ((piece_Parse.f (wrap32 (bt t195 (wrap64 ((t195.size : Int) - 1)))) ((t195.size : Int) == 2)).bind fun t198 => (kakugyolaw02_PieceNames.j1 kj6 a0 t195 (t198 != a0)))) else (none)) else (none)) = some r := by rw [if_neg (show ¬ (false = true) by decide)] at H; exact H
          clear H
          have H := H1
          clear H1
          obtain ⟨ji15, hji15⟩ : ∃ j_ : Int, (wrap64 ((t195.size : Int) - 1)) = j_ := ⟨_, rfl⟩
          replace H : (if 0 ≤ (ji15) then (if (ji15) < (t195.size : Int) then (if ((t195.toList == t196.toList) != (a0 == a1)) = true then (kakugyolaw02_PieceNames.j1 kj6 a0 t195 true) else ((piece_Parse.f (wrap32 (bt t195 (ji15))) ((t195.size : Int) == 2)).bind fun t198 => (kakugyolaw02_PieceNames.j1 kj6 a0 t195 (t198 != a0)))) else (none)) else (none)) = some r := by first | (rw [hji15] at H; exact H) | (simp only [hji15] at H ⊢; exact H)
          have hji15w : (IntKind.i64.wrap ((t195.size : Int) - 1)) = ji15 := (i64_w _).trans hji15
          by_cases c16 : 0 ≤ (ji15)
          · rw [if_pos c16] at H
            have c16b0 : decide (0 ≤ (ji15)) = true := decide_eq_true c16
            clear c16
            by_cases c17 : (ji15) < (t195.size : Int)
            · rw [if_pos c17] at H
              have c17b0 : decide ((ji15) < (t195.size : Int)) = true := decide_eq_true c17
              clear c17
              have HC19 := Aside0.mk H
              clear H
              have p18 : 0 ≤ ((ji15) : Int) := of_decide_eq_true (by first | (with_reducible assumption) | assumption)
              have q18 : (ji15) < (t195.size : Int) := of_decide_eq_true (by first | (with_reducible assumption) | assumption)
              have hx18 := bt_at t195 (ji15)
              replace p18 := eq_true p18
              replace q18 := eq_true q18
              go_upto_region 7 with (fail)
              go_cut [50] (fun v50 wc => ∃ (kq : Nat) (x50_18 : Bool), v50 = .bool x50_18 ∧ Aside0 (kakugyolaw02_PieceNames.j1 kq a0 t195 x50_18 = some r) ∧ Aside0 (kq ≤ kj6) ∧ Aside0 (Below w.heap.size w wc))
              case first =>
                have H := HC19.out
                clear HC19
                by_cases c20 : ((t195.toList == t196.toList) != (a0 == a1)) = true
                · rw [if_pos c20] at H
                  have c20b0 : ((t195.toList == t196.toList) != (a0 == a1)) = true := c20
                  (try (have c20b1 : decide ((t195.toList == t196.toList) = (a0 == a1)) = false := by simpa using c20))
                  (try (have c20b2 : ((t195.toList == t196.toList) == (a0 == a1)) = false := by simpa using c20))
                  (try (have c20b3 : ¬ ((t195.toList == t196.toList) = (a0 == a1)) := by simpa using c20))
                  clear c20
                  (first | rw [c20b0] | (simp only [i64_w, i32_w]; rw [c20b0]) | skip)
                  have H' := Aside0.mk H
                  clear H
                  go_wp2
                  go_meet
                  case rel => exact ⟨_, (true), (by first | rfl | (simp; done) | (simp [*]; done)), H', ⟨by have := HJ6.out; first | omega | exact Nat.le_refl _⟩, ⟨by repeat (first | (with_reducible first | exact HB.out | apply below_alloc | apply pw_below_drewN | apply below_drew1) | exact HB.out)⟩⟩
                · rw [if_neg c20] at H
                  have c20b0 : ((t195.toList == t196.toList) != (a0 == a1)) = false := by simpa using c20
                  (try (have c20b1 : decide ((t195.toList == t196.toList) = (a0 == a1)) = true := by simpa using c20))
                  (try (have c20b2 : ((t195.toList == t196.toList) == (a0 == a1)) = true := by simpa using c20))
                  clear c20
                  (first | rw [c20b0] | (simp only [i64_w, i32_w]; rw [c20b0]) | skip)
                  replace H := Option.bind_eq_some_iff.mp H
                  obtain ⟨t198, A210, H⟩ := H
                  replace H : (kakugyolaw02_PieceNames.j1 kj6 a0 t195 (t198 != a0)) = some r := H
                  have A21 := Aside0.mk A210
                  clear A210
                  have H' := Aside0.mk H
                  clear H
                  go_wp2_with (first | (go_at_call 27; (with_reducible refine (piece_Parse.calls (wrap32 (bt t195 (ji15))) ((t195.size : Int) == 2) t198 _ A21.out).mono ?_); rintro e w22 ⟨rfl, hb⟩; have n0_ := Aside0.mk (below_step (by repeat (first | (with_reducible first | exact HB.out | apply below_alloc | apply pw_below_drewN | apply below_drew1) | exact HB.out)) hb); clear HB; have HB := n0_; clear n0_; (try clear hb); (try clear hb2); (try clear hk); (try clear hi)))
                  go_meet
                  case rel => exact ⟨_, ((t198 != a0)), (by first | rfl | (simp; done) | (simp [*]; done)), H', ⟨by have := HJ6.out; first | omega | exact Nat.le_refl _⟩, ⟨by repeat (first | (with_reducible first | exact HB.out | apply below_alloc | apply pw_below_drewN | apply below_drew1) | exact HB.out)⟩⟩
              case rest =>
                clear HC19
                try clear c1
                try clear p1
                try clear q1
                try clear hx1
                try clear c2
                try clear p2
                try clear p3
                try clear c4
                try clear p6
                try clear c9
                try clear c10
                try clear c11
                try clear c11b0
                try clear c11b1
                try clear c12
                try clear c14
                try clear c14b0
                try clear c14b1
                try clear c15
                try clear c16
                try clear c16b0
                try clear c17
                try clear c17b0
                try clear p18
                try clear q18
                try clear hx18
                try clear c20
                try clear c20b0
                try clear c20b1
                try clear c20b2
                try clear p18
                try clear p2
                try clear q18
                obtain ⟨kq, x50_18, rfl, HA, HJ18, HB⟩ := hcut
                cases kq with
                | zero => exact absurd HA.out (by simp [kakugyolaw02_PieceNames.j1])
                | succ kj18 =>
                  have H := HA.out
                  clear HA
                  simp only [kakugyolaw02_PieceNames.j1] at H
                  by_cases c23 : x50_18 = true
                  · subst c23
                    have H1 : (some false) = some r := by rw [if_pos rfl] at H; exact H
                    clear H
                    have H := H1
                    clear H1
                    obtain rfl := Option.some.inj H
                    go_wp2
                    go_ret
                    exact ⟨by first | rfl | (simp [errW_none, errW_some] <;> rfl) | (simp only [← hji15]; first | rfl | (simp [errW_none, errW_some] <;> rfl)) | (simp [*, errW_none, errW_some] <;> rfl) | (simp [*, errW_none, errW_some]; generalize ByteArray.toList _ = q_; cases q_ <;> rfl), by repeat (first | (with_reducible first | exact HB.out | apply below_alloc | apply pw_below_drewN | apply below_drew1) | exact HB.out)⟩
                  · replace c23 := Bool.eq_false_iff.mpr c23
                    subst c23
                    have H1 : ((piece_Side.f kj18 a0).bind fun t199 => (if t199 = 1 then ((piece_Name.f kj18 (IntKind.i8.wrap (a0 - 16))).bind fun t200 => ((kakugyoref02_Small.f kj18 t200).bind fun t201 => (some (t201.toList == t195.toList)))) else (some true))) = some r := by rw [if_neg (show ¬ (false = true) by decide)] at H; exact H
                    clear H
                    have H := H1
                    clear H1
                    replace H := Option.bind_eq_some_iff.mp H
                    obtain ⟨t199, A240, H⟩ := H
                    replace H : (if t199 = 1 then ((piece_Name.f kj18 (IntKind.i8.wrap (a0 - 16))).bind fun t200 => ((kakugyoref02_Small.f kj18 t200).bind fun t201 => (some (t201.toList == t195.toList)))) else (some true)) = some r := H
                    have A24 := Aside0.mk A240
                    clear A240
                    by_cases c25 : t199 = 1
                    · rw [if_pos c25] at H
                      have c25b0 : (t199 == 1) = true := beq_iff_eq.mpr c25
                      have c25b1 : (t199 != 1) = false := bne_eq_false_iff_eq.mpr c25
                      clear c25
                      replace H := Option.bind_eq_some_iff.mp H
                      obtain ⟨t200, A260, H⟩ := H
                      replace H : ((kakugyoref02_Small.f kj18 t200).bind fun t201 => (some (t201.toList == t195.toList))) = some r := H
                      have A26 := Aside0.mk A260
                      clear A260
                      replace H := Option.bind_eq_some_iff.mp H
                      obtain ⟨t201, A270, H⟩ := H
                      replace H : (some (t201.toList == t195.toList)) = some r := H
                      have A27 := Aside0.mk A270
                      clear A270
                      obtain rfl := Option.some.inj H
                      go_wp2_with (first | ((with_reducible refine gate_callee (f := 12) rfl ?_); refine goesL_ (some 52) rfl rfl Try.func12 (by kernel_rfl) rfl #[.int .i8 a0] rfl (by (try simp only [List.map_toArray, List.map_cons, List.map_nil]); first | done | rfl | (simp only [List.length_drop, List.length_take]; rfl)) ?_; (with_reducible refine (piece_Side.calls kj18 a0 t199 _ A24.out).mono ?_); rintro e w' ⟨rfl, ⟨nd, rfl⟩⟩; refine ⟨_, rfl, ?_⟩) | (go_at_call 15; (with_reducible refine (piece_Name.calls kj18 (IntKind.i8.wrap (a0 - 16)) t200 _ A26.out).mono ?_); rintro e w28 ⟨rfl, hb⟩; have n0_ := Aside0.mk (below_step (by repeat (first | (with_reducible first | exact HB.out | apply below_alloc | apply pw_below_drewN | apply below_drew1) | exact HB.out)) hb); clear HB; have HB := n0_; clear n0_; (try clear hb); (try clear hb2); (try clear hk); (try clear hi)) | (go_at_call 28; (with_reducible refine (kakugyoref02_Small.calls kj18 t200 t201 _ A27.out).mono ?_); rintro e w29 ⟨rfl, hb⟩; have n0_ := Aside0.mk (below_step (by repeat (first | (with_reducible first | exact HB.out | apply below_alloc | apply pw_below_drewN | apply below_drew1) | exact HB.out)) hb); clear HB; have HB := n0_; clear n0_; (try clear hb); (try clear hb2); (try clear hk); (try clear hi)))
                      go_ret
                      exact ⟨by first | rfl | (simp [errW_none, errW_some] <;> rfl) | (simp only [← hji15]; first | rfl | (simp [errW_none, errW_some] <;> rfl)) | (simp [*, errW_none, errW_some] <;> rfl) | (simp [*, errW_none, errW_some]; generalize ByteArray.toList _ = q_; cases q_ <;> rfl), by repeat (first | (with_reducible first | exact HB.out | apply below_alloc | apply pw_below_drewN | apply below_drew1) | exact HB.out)⟩
                    · rw [if_neg c25] at H
                      have c25b0 : (t199 == 1) = false := beq_eq_false_iff_ne.mpr c25
                      have c25b1 : (t199 != 1) = true := bne_iff_ne.mpr c25
                      obtain rfl := Option.some.inj H
                      go_wp2_with (first | ((with_reducible refine gate_callee (f := 12) rfl ?_); refine goesL_ (some 52) rfl rfl Try.func12 (by kernel_rfl) rfl #[.int .i8 a0] rfl (by (try simp only [List.map_toArray, List.map_cons, List.map_nil]); first | done | rfl | (simp only [List.length_drop, List.length_take]; rfl)) ?_; (with_reducible refine (piece_Side.calls kj18 a0 t199 _ A24.out).mono ?_); rintro e w' ⟨rfl, ⟨nd, rfl⟩⟩; refine ⟨_, rfl, ?_⟩))
                      go_ret
                      exact ⟨by first | rfl | (simp [errW_none, errW_some] <;> rfl) | (simp only [← hji15]; first | rfl | (simp [errW_none, errW_some] <;> rfl)) | (simp [*, errW_none, errW_some] <;> rfl) | (simp [*, errW_none, errW_some]; generalize ByteArray.toList _ = q_; cases q_ <;> rfl), by repeat (first | (with_reducible first | exact HB.out | apply below_alloc | apply pw_below_drewN | apply below_drew1) | exact HB.out)⟩
            · rw [if_neg c17] at H
              exact absurd H (by simp)
          · rw [if_neg c16] at H
            exact absurd H (by simp)
  · replace c4 := Bool.eq_false_iff.mpr c4
    subst c4
    have H1 : (some false) = some r := by rw [if_neg (show ¬ (false = true) by decide)] at H; exact H
    clear H
    have H := H1
    clear H1
    obtain rfl := Option.some.inj H
    go_enter Try.func9, Try.ntmps9
    go_wp2_with (first | ((with_reducible refine gate_callee (f := 10) rfl ?_); refine goesL_ (some 9) rfl rfl Try.func10 (by kernel_rfl) rfl #[] rfl (by (try simp only [List.map_toArray, List.map_cons, List.map_nil]); first | done | rfl | (simp only [List.length_drop, List.length_take]; rfl)) ?_; (with_reducible refine (kakugyolaw02_names.calls k  false _ A3.out).mono ?_); rintro e w30 ⟨rfl, hb⟩; refine ⟨_, rfl, ?_⟩; have n0_ := Aside0.mk (below_step (by repeat (first | (with_reducible first | exact HB.out | apply below_alloc | apply pw_below_drewN | apply below_drew1) | exact HB.out)) hb); clear HB; have HB := n0_; clear n0_; (try clear hb); (try clear hb2); (try clear hk); (try clear hi)))
    go_ret
    exact ⟨by first | rfl | (simp [errW_none, errW_some] <;> rfl) | (simp [*, errW_none, errW_some] <;> rfl) | (simp [*, errW_none, errW_some]; generalize ByteArray.toList _ = q_; cases q_ <;> rfl), by repeat (first | (with_reducible first | exact HB.out | apply below_alloc | apply pw_below_drewN | apply below_drew1) | exact HB.out)⟩

/-- THE ONE PURE STATEMENT of kakugyolaw02_PieceNames: yours. -/
def kakugyolaw02_PieceNames.Pure : Prop := ∀ (a0 : Int) (a1 : Int), (Lit.int .i8 a0).wf = true → (Lit.int .i8 a1).wf = true → ∃ k, kakugyolaw02_PieceNames.f k a0 a1 = some true
theorem kakugyolaw02_PieceNames.walk (P : kakugyolaw02_PieceNames.Pure) (a0 : Int) (a1 : Int) (w : World) (w0 : (Lit.int .i8 a0).wf = true) (w1 : (Lit.int .i8 a1).wf = true) :
    Calls Try.prog 9 #[.int .i8 a0, .int .i8 a1] w fun e w' => e = .returned (.bool true) ∧ Below w.heap.size w w' := by
  obtain ⟨k, h⟩ := P a0 a1 w0 w1
  refine (kakugyolaw02_PieceNames.calls k a0 a1 true w h).mono ?_
  rintro e w' ⟨rfl, hd⟩
  exact ⟨rfl, hd⟩

end Go.Proofs.Ytnmfkhnddnohjaa.Pa
