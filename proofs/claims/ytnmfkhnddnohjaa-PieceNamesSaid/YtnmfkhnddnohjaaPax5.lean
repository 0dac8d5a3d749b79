-- Printed by a program of this session: the kit's printer, with contracts of this session's own among its functions.
import Derived.Test.YtnmfkhnddnohjaaPax0
import Derived.Test.YtnmfkhnddnohjaaPax1
import Derived.Test.YtnmfkhnddnohjaaPax2
import Derived.Test.YtnmfkhnddnohjaaPax3
namespace Go.Proofs.Ytnmfkhnddnohjaa.Pa
open Go.RowKit Go.Proofs.YtnmfkhnddnohjaaW.PrintWords Go.Proofs.YtnmfkhnddnohjaaW.PrintLast Go.Proofs.YtnmfkhnddnohjaaW.PrintMore
attribute [local go_sem] max2_int min2_int max_two min_two max_three min_three max_four min_four   -- for this text's walks alone
set_option linter.unusedVariables false
set_option linter.unusedSimpArgs false

/-! ### kakugyolaw02_PieceUp: function 7 -/
def kakugyolaw02_PieceUp.j0 : Nat → Int → Int → Int → Int → Bool → Option (Bool)
  | 0, _, _, _, _, _ => none
  | k + 1, x0, x3, x4, x5, x20 => if x20 = true then (some (x5 == 0)) else ((piece_Of.f x4 x5).bind fun t184 => (if t184 = (IntKind.i8.wrap (x0 + 8)) then ((piece_Side.f k t184).bind fun t185 => (if t185 = x4 then ((piece_Up.f x5).bind fun t186 => (if t186 = 0 then ((piece_Raw.f x5).bind fun t187 => (if t187 = x3 then ((piece_Name.f k t184).bind fun t188 => ((piece_Name.f k x0).bind fun t189 => (if 1 + t189.size ≤ 9223372036854775807 then (if t188.toList = ((⟨#[43]⟩ : ByteArray) ++ t189).toList then ((piece_Total.f k x5).bind fun t190 => (some (t190 == 0))) else (some false)) else (none)))) else (some false))) else (some false))) else (some false))) else (some false)))
def kakugyolaw02_PieceUp.f (k : Nat) (a0 : Int) : Option (Bool) := (kakugyolaw02_names.f k).bind fun t180 => (if t180 = true then ((piece_Kind.f k a0).bind fun t181 => ((piece_Side.f k a0).bind fun t182 => ((piece_Up.f t181).bind fun t183 => (if t181 = 0 then (kakugyolaw02_PieceUp.j0 k a0 t181 t182 t183 true) else (kakugyolaw02_PieceUp.j0 k a0 t181 t182 t183 (t183 == 0)))))) else (some false))
theorem kakugyolaw02_PieceUp.mono_l : ∀ k, (∀ y0 y1 y2 y3 y4, LeO (kakugyolaw02_PieceUp.j0 k y0 y1 y2 y3 y4) (kakugyolaw02_PieceUp.j0 (k + 1) y0 y1 y2 y3 y4))
  | 0 => fun _ _ _ _ _ r h => by simp [kakugyolaw02_PieceUp.j0] at h
  | k + 1 => by
    have ih0 := kakugyolaw02_PieceUp.mono_l k
    · intro y0 y1 y2 y3 y4
      unfold kakugyolaw02_PieceUp.j0
      repeat' first
      | (with_reducible exact ih0 _ _ _ _ _)
      | (with_reducible exact kakugyolaw02_names.mono _)
      | (with_reducible exact piece_Kind.mono _ _)
      | (with_reducible exact piece_Name.mono _ _)
      | (with_reducible exact piece_Side.mono _ _)
      | (with_reducible exact piece_Total.mono _ _)
      | (with_reducible exact LeO.refl _)
      | (with_reducible exact LeO.none _)
      | (with_reducible refine LeO.ite ?_ ?_)
      | (with_reducible refine LeO.bind ?_ (fun _ => ?_))
      | exact ih0 _ _ _ _ _
      | exact kakugyolaw02_names.mono _
      | exact piece_Kind.mono _ _
      | exact piece_Name.mono _ _
      | exact piece_Side.mono _ _
      | exact piece_Total.mono _ _
      | exact LeO.none _
      | refine LeO.ite ?_ ?_
      | refine LeO.bind ?_ (fun _ => ?_)
theorem kakugyolaw02_PieceUp.mono : ∀ a0 k, LeO (kakugyolaw02_PieceUp.f k a0) (kakugyolaw02_PieceUp.f (k + 1) a0) := by
  intro a0 k
  have ih0 := kakugyolaw02_PieceUp.mono_l k
  unfold kakugyolaw02_PieceUp.f
  repeat' first
      | (with_reducible exact ih0 _ _ _ _ _)
      | (with_reducible exact kakugyolaw02_names.mono _)
      | (with_reducible exact piece_Kind.mono _ _)
      | (with_reducible exact piece_Name.mono _ _)
      | (with_reducible exact piece_Side.mono _ _)
      | (with_reducible exact piece_Total.mono _ _)
      | (with_reducible exact LeO.refl _)
      | (with_reducible exact LeO.none _)
      | (with_reducible refine LeO.ite ?_ ?_)
      | (with_reducible refine LeO.bind ?_ (fun _ => ?_))
      | exact ih0 _ _ _ _ _
      | exact kakugyolaw02_names.mono _
      | exact piece_Kind.mono _ _
      | exact piece_Name.mono _ _
      | exact piece_Side.mono _ _
      | exact piece_Total.mono _ _
      | exact LeO.none _
      | refine LeO.ite ?_ ?_
      | refine LeO.bind ?_ (fun _ => ?_)
set_option maxHeartbeats 8000000 in
set_option maxRecDepth 100000 in
theorem kakugyolaw02_PieceUp.calls (k : Nat) (a0 : Int) (r : Bool) (w : World) (h : kakugyolaw02_PieceUp.f k a0 = some r) :
    Calls Try.prog 7 #[.int .i8 a0] w fun e w' => e = .returned (.bool r) ∧ Below w.heap.size w w' := by
  have HB := Aside0.mk (Below.refl w.heap.size w)
  have H : ((kakugyolaw02_names.f k).bind fun t180 => (if t180 = true then ((piece_Kind.f k a0).bind fun t181 => ((piece_Side.f k a0).bind fun t182 => ((piece_Up.f t181).bind fun t183 => (if t181 = 0 then (kakugyolaw02_PieceUp.j0 k a0 t181 t182 t183 true) else (kakugyolaw02_PieceUp.j0 k a0 t181 t182 t183 (t183 == 0)))))) else (some false))) = some r := h
  clear h
  replace H := Option.bind_eq_some_iff.mp H
  obtain ⟨t180, A20, H⟩ := H
  replace H : (if t180 = true then ((piece_Kind.f k a0).bind fun t181 => ((piece_Side.f k a0).bind fun t182 => ((piece_Up.f t181).bind fun t183 => (if t181 = 0 then (kakugyolaw02_PieceUp.j0 k a0 t181 t182 t183 true) else (kakugyolaw02_PieceUp.j0 k a0 t181 t182 t183 (t183 == 0)))))) else (some false)) = some r := H
  have A2 := Aside0.mk A20
  clear A20
  by_cases c3 : t180 = true
  · subst c3
    have H1 : ((piece_Kind.f k a0).bind fun t181 => ((piece_Side.f k a0).bind fun t182 => ((piece_Up.f t181).bind fun t183 => (if t181 = 0 then (kakugyolaw02_PieceUp.j0 k a0 t181 t182 t183 true) else (kakugyolaw02_PieceUp.j0 k a0 t181 t182 t183 (t183 == 0)))))) = some r := by rw [if_pos rfl] at H; exact H
    clear H
    have H := H1
    clear H1
    replace H := Option.bind_eq_some_iff.mp H
    obtain ⟨t181, A40, H⟩ := H
    replace H : ((piece_Side.f k a0).bind fun t182 => ((piece_Up.f t181).bind fun t183 => (if t181 = 0 then (kakugyolaw02_PieceUp.j0 k a0 t181 t182 t183 true) else (kakugyolaw02_PieceUp.j0 k a0 t181 t182 t183 (t183 == 0))))) = some r := H
    have A4 := Aside0.mk A40
    clear A40
    replace H := Option.bind_eq_some_iff.mp H
    obtain ⟨t182, A50, H⟩ := H
    replace H : ((piece_Up.f t181).bind fun t183 => (if t181 = 0 then (kakugyolaw02_PieceUp.j0 k a0 t181 t182 t183 true) else (kakugyolaw02_PieceUp.j0 k a0 t181 t182 t183 (t183 == 0)))) = some r := H
    have A5 := Aside0.mk A50
    clear A50
    replace H := Option.bind_eq_some_iff.mp H
    obtain ⟨t183, A60, H⟩ := H
    replace H : (if t181 = 0 then (kakugyolaw02_PieceUp.j0 k a0 t181 t182 t183 true) else (kakugyolaw02_PieceUp.j0 k a0 t181 t182 t183 (t183 == 0))) = some r := H
    have A6 := Aside0.mk A60
    clear A60
    have HC7 := Aside0.mk H
    clear H
    go_enter Try.func7, Try.ntmps7
    go_upto_region 5 with (first | ((with_reducible refine gate_callee (f := 10) rfl ?_); refine goesL_ (some 7) rfl rfl Try.func10 (by kernel_rfl) rfl #[] rfl (by (try simp only [List.map_toArray, List.map_cons, List.map_nil]); first | done | rfl | (simp only [List.length_drop, List.length_take]; rfl)) ?_; (with_reducible refine (kakugyolaw02_names.calls k  true _ A2.out).mono ?_); rintro e w8 ⟨rfl, hb⟩; refine ⟨_, rfl, ?_⟩; have n0_ := Aside0.mk (below_step (by repeat (first | (with_reducible first | exact HB.out | apply below_alloc | apply pw_below_drewN | apply below_drew1) | exact HB.out)) hb); clear HB; have HB := n0_; clear n0_; (try clear hb); (try clear hb2); (try clear hk); (try clear hi)) | ((with_reducible refine gate_callee (f := 11) rfl ?_); refine goesL_ (some 10) rfl rfl Try.func11 (by kernel_rfl) rfl #[.int .i8 a0] rfl (by (try simp only [List.map_toArray, List.map_cons, List.map_nil]); first | done | rfl | (simp only [List.length_drop, List.length_take]; rfl)) ?_; (with_reducible refine (piece_Kind.calls k a0 t181 _ A4.out).mono ?_); rintro e w' ⟨rfl, ⟨nd, rfl⟩⟩; refine ⟨_, rfl, ?_⟩) | ((with_reducible refine gate_callee (f := 12) rfl ?_); refine goesL_ (some 12) rfl rfl Try.func12 (by kernel_rfl) rfl #[.int .i8 a0] rfl (by (try simp only [List.map_toArray, List.map_cons, List.map_nil]); first | done | rfl | (simp only [List.length_drop, List.length_take]; rfl)) ?_; (with_reducible refine (piece_Side.calls k a0 t182 _ A5.out).mono ?_); rintro e w' ⟨rfl, ⟨nd, rfl⟩⟩; refine ⟨_, rfl, ?_⟩) | ((with_reducible refine gate_callee (f := 23) rfl ?_); refine goesL_ (some 14) rfl rfl Try.func23 (by kernel_rfl) rfl #[.int .i64 t181] rfl (by (try simp only [List.map_toArray, List.map_cons, List.map_nil]); first | done | rfl | (simp only [List.length_drop, List.length_take]; rfl)) ?_; (with_reducible refine (piece_Up.calls t181 t183 _ A6.out).mono ?_); rintro e w' ⟨rfl, ⟨nd, rfl⟩⟩; refine ⟨_, rfl, ?_⟩))
    (try simp only [Act.put, List.setIfInBounds_toArray, List.set_cons_zero, List.set_cons_succ])
    go_cut [20] (fun v20 wc => ∃ (kq : Nat) (x20_6 : Bool), v20 = .bool x20_6 ∧ Aside0 (kakugyolaw02_PieceUp.j0 kq a0 t181 t182 t183 x20_6 = some r) ∧ Aside0 (kq ≤ k) ∧ Aside0 (Below w.heap.size w wc))
    case first =>
      have H := HC7.out
      clear HC7
      by_cases c9 : t181 = 0
      · rw [if_pos c9] at H
        have c9b0 : (t181 == 0) = true := beq_iff_eq.mpr c9
        have c9b1 : (t181 != 0) = false := bne_eq_false_iff_eq.mpr c9
        clear c9
        (first | rw [c9b0] | (simp only [i64_w, i32_w]; rw [c9b0]) | skip)
        have H' := Aside0.mk H
        clear H
        go_wp2
        go_meet
        case rel => exact ⟨_, (true), (by first | rfl | (simp; done) | (simp [*]; done)), H', ⟨by first | omega | exact Nat.le_refl _⟩, ⟨by repeat (first | (with_reducible first | exact HB.out | apply below_alloc | apply pw_below_drewN | apply below_drew1) | exact HB.out)⟩⟩
      · rw [if_neg c9] at H
        have c9b0 : (t181 == 0) = false := beq_eq_false_iff_ne.mpr c9
        have c9b1 : (t181 != 0) = true := bne_iff_ne.mpr c9
        (first | rw [c9b0] | (simp only [i64_w, i32_w]; rw [c9b0]) | skip)
        have H' := Aside0.mk H
        clear H
        go_wp2
        go_meet
        case rel => exact ⟨_, ((t183 == 0)), (by first | rfl | (simp; done) | (simp [*]; done)), H', ⟨by first | omega | exact Nat.le_refl _⟩, ⟨by repeat (first | (with_reducible first | exact HB.out | apply below_alloc | apply pw_below_drewN | apply below_drew1) | exact HB.out)⟩⟩
    case rest =>
      clear HC7
      try clear c1
      try clear c2
      try clear p2
      try clear c3
      try clear c7
      try clear c9
      try clear c9b0
      try clear c9b1
      obtain ⟨kq, x20_6, rfl, HA, HJ6, HB⟩ := hcut
      cases kq with
      | zero => exact absurd HA.out (by simp [kakugyolaw02_PieceUp.j0])
      | succ kj6 =>
        have H := HA.out
        clear HA
        simp only [kakugyolaw02_PieceUp.j0] at H
        by_cases c10 : x20_6 = true
        · subst c10
          have H1 : (some (t183 == 0)) = some r := by rw [if_pos rfl] at H; exact H
          clear H
          have H := H1
          clear H1
          obtain rfl := Option.some.inj H
          go_wp2
          go_ret
          exact ⟨by first | rfl | (simp [errW_none, errW_some] <;> rfl) | (simp [*, errW_none, errW_some] <;> rfl) | (simp [*, errW_none, errW_some]; generalize ByteArray.toList _ = q_; cases q_ <;> rfl), by repeat (first | (with_reducible first | exact HB.out | apply below_alloc | apply pw_below_drewN | apply below_drew1) | exact HB.out)⟩
        · replace c10 := Bool.eq_false_iff.mpr c10
          subst c10
          have H1 : ((piece_Of.f t182 t183).bind fun t184 => (if t184 = (IntKind.i8.wrap (a0 + 8)) then ((piece_Side.f kj6 t184).bind fun t185 => (if t185 = t182 then ((piece_Up.f t183).bind fun t186 => (if t186 = 0 then ((piece_Raw.f t183).bind fun t187 => (if t187 = t181 then ((piece_Name.f kj6 t184).bind fun t188 => ((piece_Name.f kj6 a0).bind fun t189 => (if 1 + t189.size ≤ 9223372036854775807 then (if t188.toList = ((⟨#[43]⟩ : ByteArray) ++ t189).toList then ((piece_Total.f kj6 t183).bind fun t190 => (some (t190 == 0))) else (some false)) else (none)))) else (some false))) else (some false))) else (some false))) else (some false))) = some r := by rw [if_neg (show ¬ (false = true) by decide)] at H; exact H
          clear H
          have H := H1
          clear H1
          replace H := Option.bind_eq_some_iff.mp H
          obtain ⟨t184, A110, H⟩ := H
          replace H : (if t184 = (IntKind.i8.wrap (a0 + 8)) then ((piece_Side.f kj6 t184).bind fun t185 => (if t185 = t182 then ((piece_Up.f t183).bind fun t186 => (if t186 = 0 then ((piece_Raw.f t183).bind fun t187 => (if t187 = t181 then ((piece_Name.f kj6 t184).bind fun t188 => ((piece_Name.f kj6 a0).bind fun t189 => (if 1 + t189.size ≤ 9223372036854775807 then (if t188.toList = ((⟨#[43]⟩ : ByteArray) ++ t189).toList then ((piece_Total.f kj6 t183).bind fun t190 => (some (t190 == 0))) else (some false)) else (none)))) else (some false))) else (some false))) else (some false))) else (some false)) = some r := H
          have A11 := Aside0.mk A110
          clear A110
          by_cases c12 : t184 = (IntKind.i8.wrap (a0 + 8))
          · rw [if_pos c12] at H
            have c12b0 : (t184 == (IntKind.i8.wrap (a0 + 8))) = true := beq_iff_eq.mpr c12
            have c12b1 : (t184 != (IntKind.i8.wrap (a0 + 8))) = false := bne_eq_false_iff_eq.mpr c12
            clear c12
            replace H := Option.bind_eq_some_iff.mp H
            obtain ⟨t185, A130, H⟩ := H
            replace H : (if t185 = t182 then ((piece_Up.f t183).bind fun t186 => (if t186 = 0 then ((piece_Raw.f t183).bind fun t187 => (if t187 = t181 then ((piece_Name.f kj6 t184).bind fun t188 => ((piece_Name.f kj6 a0).bind fun t189 => (if 1 + t189.size ≤ 9223372036854775807 then (if t188.toList = ((⟨#[43]⟩ : ByteArray) ++ t189).toList then ((piece_Total.f kj6 t183).bind fun t190 => (some (t190 == 0))) else (some false)) else (none)))) else (some false))) else (some false))) else (some false)) = some r := H
            have A13 := Aside0.mk A130
            clear A130
            by_cases c14 : t185 = t182
            · rw [if_pos c14] at H
              have c14b0 : (t185 == t182) = true := beq_iff_eq.mpr c14
              have c14b1 : (t185 != t182) = false := bne_eq_false_iff_eq.mpr c14
              clear c14
              replace H := Option.bind_eq_some_iff.mp H
              obtain ⟨t186, A150, H⟩ := H
              replace H : (if t186 = 0 then ((piece_Raw.f t183).bind fun t187 => (if t187 = t181 then ((piece_Name.f kj6 t184).bind fun t188 => ((piece_Name.f kj6 a0).bind fun t189 => (if 1 + t189.size ≤ 9223372036854775807 then (if t188.toList = ((⟨#[43]⟩ : ByteArray) ++ t189).toList then ((piece_Total.f kj6 t183).bind fun t190 => (some (t190 == 0))) else (some false)) else (none)))) else (some false))) else (some false)) = some r := H
              have A15 := Aside0.mk A150
              clear A150
              by_cases c16 : t186 = 0
              · rw [if_pos c16] at H
                have c16b0 : (t186 == 0) = true := beq_iff_eq.mpr c16
                have c16b1 : (t186 != 0) = false := bne_eq_false_iff_eq.mpr c16
                clear c16
                replace H := Option.bind_eq_some_iff.mp H
                obtain ⟨t187, A170, H⟩ := H
                replace H : (if t187 = t181 then ((piece_Name.f kj6 t184).bind fun t188 => ((piece_Name.f kj6 a0).bind fun t189 => (if 1 + t189.size ≤ 9223372036854775807 then (if t188.toList = ((⟨#[43]⟩ : ByteArray) ++ t189).toList then ((piece_Total.f kj6 t183).bind fun t190 => (some (t190 == 0))) else (some false)) else (none)))) else (some false)) = some r := H
                have A17 := Aside0.mk A170
                clear A170
                by_cases c18 : t187 = t181
                · rw [if_pos c18] at H
                  have c18b0 : (t187 == t181) = true := beq_iff_eq.mpr c18
                  have c18b1 : (t187 != t181) = false := bne_eq_false_iff_eq.mpr c18
                  clear c18
                  replace H := Option.bind_eq_some_iff.mp H
                  obtain ⟨t188, A190, H⟩ := H
                  replace H : ((piece_Name.f kj6 a0).bind fun t189 => (if 1 + t189.size ≤ 9223372036854775807 then (if t188.toList = ((⟨#[43]⟩ : ByteArray) ++ t189).toList then ((piece_Total.f kj6 t183).bind fun t190 => (some (t190 == 0))) else (some false)) else (none))) = some r := H
                  have A19 := Aside0.mk A190
                  clear A190
                  replace H := Option.bind_eq_some_iff.mp H
                  obtain ⟨t189, A200, H⟩ := H
                  replace H : (if 1 + t189.size ≤ 9223372036854775807 then (if t188.toList = ((⟨#[43]⟩ : ByteArray) ++ t189).toList then ((piece_Total.f kj6 t183).bind fun t190 => (some (t190 == 0))) else (some false)) else (none)) = some r := H
                  have A20 := Aside0.mk A200
                  clear A200
                  by_cases c21 : 1 + t189.size ≤ 9223372036854775807
                  · rw [if_pos c21] at H
                    have c21b0 := eq_true c21
                    have c21b1 : decide (1 + t189.size ≤ 9223372036854775807) = true := decide_eq_true c21
                    try have c21b2 : (9223372036854775807 < 1 + t189.size) = False := eq_false (Nat.not_lt.2 c21)
                    by_cases c22 : t188.toList = ((⟨#[43]⟩ : ByteArray) ++ t189).toList
                    · rw [if_pos c22] at H
                      have c22b0 : (t188.toList == ((⟨#[43]⟩ : ByteArray) ++ t189).toList) = true := beq_iff_eq.mpr c22
                      have c22b1 : (t188.toList != ((⟨#[43]⟩ : ByteArray) ++ t189).toList) = false := bne_eq_false_iff_eq.mpr c22
                      clear c22
                      replace H := Option.bind_eq_some_iff.mp H
                      obtain ⟨t190, A230, H⟩ := H
                      replace H : (some (t190 == 0)) = some r := H
                      have A23 := Aside0.mk A230
                      clear A230
                      obtain rfl := Option.some.inj H
                      go_wp2_with (first | ((with_reducible refine gate_callee (f := 17) rfl ?_); refine goesL_ (some 25) rfl rfl Try.func17 (by kernel_rfl) rfl #[.int .i64 t182, .int .i64 t183] rfl (by (try simp only [List.map_toArray, List.map_cons, List.map_nil]); first | done | rfl | (simp only [List.length_drop, List.length_take]; rfl)) ?_; (with_reducible refine (piece_Of.calls t182 t183 t184 _ A11.out).mono ?_); rintro e w' ⟨rfl, ⟨nd, rfl⟩⟩; refine ⟨_, rfl, ?_⟩) | (go_at_call 12; (with_reducible refine (piece_Side.calls kj6 t184 t185 _ A13.out).mono ?_); rintro e w' ⟨rfl, ⟨nd, rfl⟩⟩) | (go_at_call 23; (with_reducible refine (piece_Up.calls t183 t186 _ A15.out).mono ?_); rintro e w' ⟨rfl, ⟨nd, rfl⟩⟩) | (go_at_call 18; (with_reducible refine (piece_Raw.calls t183 t187 _ A17.out).mono ?_); rintro e w' ⟨rfl, ⟨nd, rfl⟩⟩) | (go_at_call 15; (with_reducible refine (piece_Name.calls kj6 t184 t188 _ A19.out).mono ?_); rintro e w24 ⟨rfl, hb⟩; have n0_ := Aside0.mk (below_step (by repeat (first | (with_reducible first | exact HB.out | apply below_alloc | apply pw_below_drewN | apply below_drew1) | exact HB.out)) hb); clear HB; have HB := n0_; clear n0_; (try clear hb); (try clear hb2); (try clear hk); (try clear hi)) | (go_at_call 15; (with_reducible refine (piece_Name.calls kj6 a0 t189 _ A20.out).mono ?_); rintro e w25 ⟨rfl, hb⟩; have n0_ := Aside0.mk (below_step (by repeat (first | (with_reducible first | exact HB.out | apply below_alloc | apply pw_below_drewN | apply below_drew1) | exact HB.out)) hb); clear HB; have HB := n0_; clear n0_; (try clear hb); (try clear hb2); (try clear hk); (try clear hi)) | (go_at_call 25; (with_reducible refine (piece_Total.calls kj6 t183 t190 _ A23.out).mono ?_); rintro e w' ⟨rfl, ⟨nd, rfl⟩⟩))
                      go_ret
                      exact ⟨by first | rfl | (simp [errW_none, errW_some] <;> rfl) | (simp [*, errW_none, errW_some] <;> rfl) | (simp [*, errW_none, errW_some]; generalize ByteArray.toList _ = q_; cases q_ <;> rfl), by repeat (first | (with_reducible first | exact HB.out | apply below_alloc | apply pw_below_drewN | apply below_drew1) | exact HB.out)⟩
                    · rw [if_neg c22] at H
                      have c22b0 : (t188.toList == ((⟨#[43]⟩ : ByteArray) ++ t189).toList) = false := beq_eq_false_iff_ne.mpr c22
                      have c22b1 : (t188.toList != ((⟨#[43]⟩ : ByteArray) ++ t189).toList) = true := bne_iff_ne.mpr c22
                      obtain rfl := Option.some.inj H
                      go_wp2_with (first | ((with_reducible refine gate_callee (f := 17) rfl ?_); refine goesL_ (some 25) rfl rfl Try.func17 (by kernel_rfl) rfl #[.int .i64 t182, .int .i64 t183] rfl (by (try simp only [List.map_toArray, List.map_cons, List.map_nil]); first | done | rfl | (simp only [List.length_drop, List.length_take]; rfl)) ?_; (with_reducible refine (piece_Of.calls t182 t183 t184 _ A11.out).mono ?_); rintro e w' ⟨rfl, ⟨nd, rfl⟩⟩; refine ⟨_, rfl, ?_⟩) | (go_at_call 12; (with_reducible refine (piece_Side.calls kj6 t184 t185 _ A13.out).mono ?_); rintro e w' ⟨rfl, ⟨nd, rfl⟩⟩) | (go_at_call 23; (with_reducible refine (piece_Up.calls t183 t186 _ A15.out).mono ?_); rintro e w' ⟨rfl, ⟨nd, rfl⟩⟩) | (go_at_call 18; (with_reducible refine (piece_Raw.calls t183 t187 _ A17.out).mono ?_); rintro e w' ⟨rfl, ⟨nd, rfl⟩⟩) | (go_at_call 15; (with_reducible refine (piece_Name.calls kj6 t184 t188 _ A19.out).mono ?_); rintro e w26 ⟨rfl, hb⟩; have n0_ := Aside0.mk (below_step (by repeat (first | (with_reducible first | exact HB.out | apply below_alloc | apply pw_below_drewN | apply below_drew1) | exact HB.out)) hb); clear HB; have HB := n0_; clear n0_; (try clear hb); (try clear hb2); (try clear hk); (try clear hi)) | (go_at_call 15; (with_reducible refine (piece_Name.calls kj6 a0 t189 _ A20.out).mono ?_); rintro e w27 ⟨rfl, hb⟩; have n0_ := Aside0.mk (below_step (by repeat (first | (with_reducible first | exact HB.out | apply below_alloc | apply pw_below_drewN | apply below_drew1) | exact HB.out)) hb); clear HB; have HB := n0_; clear n0_; (try clear hb); (try clear hb2); (try clear hk); (try clear hi)))
                      go_ret
                      exact ⟨by first | rfl | (simp [errW_none, errW_some] <;> rfl) | (simp [*, errW_none, errW_some] <;> rfl) | (simp [*, errW_none, errW_some]; generalize ByteArray.toList _ = q_; cases q_ <;> rfl), by repeat (first | (with_reducible first | exact HB.out | apply below_alloc | apply pw_below_drewN | apply below_drew1) | exact HB.out)⟩
                  · rw [if_neg c21] at H
                    exact absurd H (by simp)
                · rw [if_neg c18] at H
                  have c18b0 : (t187 == t181) = false := beq_eq_false_iff_ne.mpr c18
                  have c18b1 : (t187 != t181) = true := bne_iff_ne.mpr c18
                  obtain rfl := Option.some.inj H
                  go_wp2_with (first | ((with_reducible refine gate_callee (f := 17) rfl ?_); refine goesL_ (some 25) rfl rfl Try.func17 (by kernel_rfl) rfl #[.int .i64 t182, .int .i64 t183] rfl (by (try simp only [List.map_toArray, List.map_cons, List.map_nil]); first | done | rfl | (simp only [List.length_drop, List.length_take]; rfl)) ?_; (with_reducible refine (piece_Of.calls t182 t183 t184 _ A11.out).mono ?_); rintro e w' ⟨rfl, ⟨nd, rfl⟩⟩; refine ⟨_, rfl, ?_⟩) | (go_at_call 12; (with_reducible refine (piece_Side.calls kj6 t184 t185 _ A13.out).mono ?_); rintro e w' ⟨rfl, ⟨nd, rfl⟩⟩) | (go_at_call 23; (with_reducible refine (piece_Up.calls t183 t186 _ A15.out).mono ?_); rintro e w' ⟨rfl, ⟨nd, rfl⟩⟩) | (go_at_call 18; (with_reducible refine (piece_Raw.calls t183 t187 _ A17.out).mono ?_); rintro e w' ⟨rfl, ⟨nd, rfl⟩⟩))
                  go_ret
                  exact ⟨by first | rfl | (simp [errW_none, errW_some] <;> rfl) | (simp [*, errW_none, errW_some] <;> rfl) | (simp [*, errW_none, errW_some]; generalize ByteArray.toList _ = q_; cases q_ <;> rfl), by repeat (first | (with_reducible first | exact HB.out | apply below_alloc | apply pw_below_drewN | apply below_drew1) | exact HB.out)⟩
              · rw [if_neg c16] at H
                have c16b0 : (t186 == 0) = false := beq_eq_false_iff_ne.mpr c16
                have c16b1 : (t186 != 0) = true := bne_iff_ne.mpr c16
                obtain rfl := Option.some.inj H
                go_wp2_with (first | ((with_reducible refine gate_callee (f := 17) rfl ?_); refine goesL_ (some 25) rfl rfl Try.func17 (by kernel_rfl) rfl #[.int .i64 t182, .int .i64 t183] rfl (by (try simp only [List.map_toArray, List.map_cons, List.map_nil]); first | done | rfl | (simp only [List.length_drop, List.length_take]; rfl)) ?_; (with_reducible refine (piece_Of.calls t182 t183 t184 _ A11.out).mono ?_); rintro e w' ⟨rfl, ⟨nd, rfl⟩⟩; refine ⟨_, rfl, ?_⟩) | (go_at_call 12; (with_reducible refine (piece_Side.calls kj6 t184 t185 _ A13.out).mono ?_); rintro e w' ⟨rfl, ⟨nd, rfl⟩⟩) | (go_at_call 23; (with_reducible refine (piece_Up.calls t183 t186 _ A15.out).mono ?_); rintro e w' ⟨rfl, ⟨nd, rfl⟩⟩))
                go_ret
                exact ⟨by first | rfl | (simp [errW_none, errW_some] <;> rfl) | (simp [*, errW_none, errW_some] <;> rfl) | (simp [*, errW_none, errW_some]; generalize ByteArray.toList _ = q_; cases q_ <;> rfl), by repeat (first | (with_reducible first | exact HB.out | apply below_alloc | apply pw_below_drewN | apply below_drew1) | exact HB.out)⟩
            · rw [if_neg c14] at H
              have c14b0 : (t185 == t182) = false := beq_eq_false_iff_ne.mpr c14
              have c14b1 : (t185 != t182) = true := bne_iff_ne.mpr c14
              obtain rfl := Option.some.inj H
              go_wp2_with (first | ((with_reducible refine gate_callee (f := 17) rfl ?_); refine goesL_ (some 25) rfl rfl Try.func17 (by kernel_rfl) rfl #[.int .i64 t182, .int .i64 t183] rfl (by (try simp only [List.map_toArray, List.map_cons, List.map_nil]); first | done | rfl | (simp only [List.length_drop, List.length_take]; rfl)) ?_; (with_reducible refine (piece_Of.calls t182 t183 t184 _ A11.out).mono ?_); rintro e w' ⟨rfl, ⟨nd, rfl⟩⟩; refine ⟨_, rfl, ?_⟩) | (go_at_call 12; (with_reducible refine (piece_Side.calls kj6 t184 t185 _ A13.out).mono ?_); rintro e w' ⟨rfl, ⟨nd, rfl⟩⟩))
              go_ret
              exact ⟨by first | rfl | (simp [errW_none, errW_some] <;> rfl) | (simp [*, errW_none, errW_some] <;> rfl) | (simp [*, errW_none, errW_some]; generalize ByteArray.toList _ = q_; cases q_ <;> rfl), by repeat (first | (with_reducible first | exact HB.out | apply below_alloc | apply pw_below_drewN | apply below_drew1) | exact HB.out)⟩
          · rw [if_neg c12] at H
            have c12b0 : (t184 == (IntKind.i8.wrap (a0 + 8))) = false := beq_eq_false_iff_ne.mpr c12
            have c12b1 : (t184 != (IntKind.i8.wrap (a0 + 8))) = true := bne_iff_ne.mpr c12
            obtain rfl := Option.some.inj H
            go_wp2_with (first | ((with_reducible refine gate_callee (f := 17) rfl ?_); refine goesL_ (some 25) rfl rfl Try.func17 (by kernel_rfl) rfl #[.int .i64 t182, .int .i64 t183] rfl (by (try simp only [List.map_toArray, List.map_cons, List.map_nil]); first | done | rfl | (simp only [List.length_drop, List.length_take]; rfl)) ?_; (with_reducible refine (piece_Of.calls t182 t183 t184 _ A11.out).mono ?_); rintro e w' ⟨rfl, ⟨nd, rfl⟩⟩; refine ⟨_, rfl, ?_⟩))
            go_ret
            exact ⟨by first | rfl | (simp [errW_none, errW_some] <;> rfl) | (simp [*, errW_none, errW_some] <;> rfl) | (simp [*, errW_none, errW_some]; generalize ByteArray.toList _ = q_; cases q_ <;> rfl), by repeat (first | (with_reducible first | exact HB.out | apply below_alloc | apply pw_below_drewN | apply below_drew1) | exact HB.out)⟩
  · replace c3 := Bool.eq_false_iff.mpr c3
    subst c3
    have H1 : (some false) = some r := by rw [if_neg (show ¬ (false = true) by decide)] at H; exact H
    clear H
    have H := H1
    clear H1
    obtain rfl := Option.some.inj H
    go_enter Try.func7, Try.ntmps7
    go_wp2_with (first | ((with_reducible refine gate_callee (f := 10) rfl ?_); refine goesL_ (some 7) rfl rfl Try.func10 (by kernel_rfl) rfl #[] rfl (by (try simp only [List.map_toArray, List.map_cons, List.map_nil]); first | done | rfl | (simp only [List.length_drop, List.length_take]; rfl)) ?_; (with_reducible refine (kakugyolaw02_names.calls k  false _ A2.out).mono ?_); rintro e w28 ⟨rfl, hb⟩; refine ⟨_, rfl, ?_⟩; have n0_ := Aside0.mk (below_step (by repeat (first | (with_reducible first | exact HB.out | apply below_alloc | apply pw_below_drewN | apply below_drew1) | exact HB.out)) hb); clear HB; have HB := n0_; clear n0_; (try clear hb); (try clear hb2); (try clear hk); (try clear hi)))
    go_ret
    exact ⟨by first | rfl | (simp [errW_none, errW_some] <;> rfl) | (simp [*, errW_none, errW_some] <;> rfl) | (simp [*, errW_none, errW_some]; generalize ByteArray.toList _ = q_; cases q_ <;> rfl), by repeat (first | (with_reducible first | exact HB.out | apply below_alloc | apply pw_below_drewN | apply below_drew1) | exact HB.out)⟩

/-- THE ONE PURE STATEMENT of kakugyolaw02_PieceUp: yours. -/
def kakugyolaw02_PieceUp.Pure : Prop := ∀ (a0 : Int), (Lit.int .i8 a0).wf = true → ∃ k, kakugyolaw02_PieceUp.f k a0 = some true
theorem kakugyolaw02_PieceUp.walk (P : kakugyolaw02_PieceUp.Pure) (a0 : Int) (w : World) (w0 : (Lit.int .i8 a0).wf = true) :
    Calls Try.prog 7 #[.int .i8 a0] w fun e w' => e = .returned (.bool true) ∧ Below w.heap.size w w' := by
  obtain ⟨k, h⟩ := P a0 w0
  refine (kakugyolaw02_PieceUp.calls k a0 true w h).mono ?_
  rintro e w' ⟨rfl, hd⟩
  exact ⟨rfl, hd⟩

/-! ### piece_Parse: function 27 -/
def piece_Parse.str : ByteArray := ⟨#[32, 80, 76, 78, 83, 71, 66, 82, 75]⟩
def piece_Parse.tab : List Nat := [32, 80, 76, 78, 83, 71, 66, 82, 75]
def piece_Parse.kind (a : Int) : Int := if a = 80 then 1 else if a = 76 then 2 else if a = 78 then 3 else if a = 83 then 4 else if a = 71 then 5 else if a = 66 then 6 else if a = 82 then 7 else if a = 75 then 8 else 0
def piece_Parse.look (side a : Int) (a1 : Bool) : Option Int := if piece_Parse.kind a = 0 then some 0 else if a1 = true then (piece_Up.f (piece_Parse.kind a)).bind fun t => piece_Of.f side t else piece_Of.f side (piece_Parse.kind a)
def piece_Parse.f (a0 : Int) (a1 : Bool) : Option Int := if 97 ≤ a0 ∧ a0 ≤ 122 then piece_Parse.look 1 (a0 - 32) a1 else piece_Parse.look 0 a0 a1
theorem piece_Parse.dec : ∀ j, j < 9 → Utf8.decode piece_Parse.str j = (piece_Parse.tab.getD j 0, 1) ∧ piece_Parse.tab.getD j 0 < 50000 ∧ (j ≠ 0 → piece_Parse.kind ((piece_Parse.tab.getD j 0 : Nat) : Int) = (j : Int)) := by decide +kernel
theorem piece_Parse.kind_cases (a : Int) : piece_Parse.kind a = 0 ∨ ∃ j : Nat, 1 ≤ j ∧ j < 9 ∧ a = ((piece_Parse.tab.getD j 0 : Nat) : Int) := by
  unfold piece_Parse.kind
  repeat' split
  all_goals first
    | (left; rfl)
    | (right; first | exact ⟨1, by omega, by omega, by simp only [*]; rfl⟩ | exact ⟨2, by omega, by omega, by simp only [*]; rfl⟩ | exact ⟨3, by omega, by omega, by simp only [*]; rfl⟩ | exact ⟨4, by omega, by omega, by simp only [*]; rfl⟩ | exact ⟨5, by omega, by omega, by simp only [*]; rfl⟩ | exact ⟨6, by omega, by omega, by simp only [*]; rfl⟩ | exact ⟨7, by omega, by omega, by simp only [*]; rfl⟩ | exact ⟨8, by omega, by omega, by simp only [*]; rfl⟩)
def piece_Parse.Post (r : Int) (w : World) (e : Ending) (w' : World) : Prop := e = .returned (.int .i8 r) ∧ Below w.heap.size w w'
theorem piece_Parse.calls (a0 : Int) (a1 : Bool) (r : Int) (w : World) (h : piece_Parse.f a0 a1 = some r) :
    Calls Try.prog 27 #[.int .i32 a0, .bool a1] w fun e w' => e = .returned (.int .i8 r) ∧ Below w.heap.size w w' := by
  obtain ⟨side, L, hat, hL⟩ : ∃ side L : Int, piece_Parse.look side L a1 = some r ∧ ((97 ≤ a0 ∧ a0 ≤ 122 ∧ side = 1 ∧ L = a0 - 32) ∨ (¬ (97 ≤ a0 ∧ a0 ≤ 122) ∧ side = 0 ∧ L = a0)) := by
    unfold piece_Parse.f at h
    split at h
    · exact ⟨1, a0 - 32, h, .inl ⟨by omega, by omega, rfl, rfl⟩⟩
    · exact ⟨0, a0, h, .inr ⟨by assumption, rfl, rfl⟩⟩
  have HH := Lib.hid h; clear h
  have HAT := Lib.hid hat; clear hat
  show Calls Try.prog 27 #[.int .i32 a0, .bool a1] w (piece_Parse.Post r w)
  have hB : (decide (97 ≤ a0) = true ∧ decide (a0 ≤ 122) = true ∧ side = 1 ∧ L = a0 - 32) ∨ ((decide (97 ≤ a0) = true ∧ decide (a0 ≤ 122) = false ∨ decide (97 ≤ a0) = false) ∧ side = 0 ∧ L = a0) := by
    rcases hL with ⟨h1, h2, h3, h4⟩ | ⟨h1, h3, h4⟩
    · exact .inl ⟨decide_eq_true h1, decide_eq_true h2, h3, h4⟩
    · by_cases h2 : 97 ≤ a0
      · exact .inr ⟨.inl ⟨decide_eq_true h2, decide_eq_false (by omega)⟩, h3, h4⟩
      · exact .inr ⟨.inr (decide_eq_false h2), h3, h4⟩
  clear hL
  rcases hB with ⟨b1, b2, rfl, h4⟩ | ⟨⟨b1, b2⟩ | b1, rfl, rfl⟩
  all_goals
    try have H4 := Lib.hid (show wrap32 (a0 - 32) = L by have := of_decide_eq_true b1; have := of_decide_eq_true b2; unfold wrap32; omega)
    try clear h4
    go_enter Try.func27, Try.ntmps27
    go_wp2
    try rw [H4.out]
    go_loopg [6] 10 (fun gf s6 wx => ∃ j : Nat, j ≤ 9 ∧ wx.heap[w.heap.size]? = some (.stringIter piece_Parse.str j) ∧ Below w.heap.size w wx ∧ Hid (∀ q : Nat, 1 ≤ q → q < j → L ≠ ((piece_Parse.tab.getD q 0 : Nat) : Int)) ∧ 9 ≤ j + gf)
    case atStart => exact ⟨0, by omega, World.iter_heap w piece_Parse.str 0, (Below.refl _ w).alloc (Nat.le_refl _) _, Lib.hid (fun q _ hq => absurd hq (by omega)), by omega⟩
    case round =>
      obtain ⟨j, hj, hit, hbw, hall, hfu⟩ := hrel
      by_cases hps : j < 9
      · obtain ⟨g', rfl⟩ : ∃ g', gk = g' + 1 := ⟨gk - 1, by omega⟩
        have hnx : ∀ ty, (Instr.next (.pointer (some ⟨w.heap.size, 0, none⟩)) true ty).run Try.prog wr = _ := fun ty => Lib.run_next_any_at wr w.heap.size piece_Parse.str j ty hit (by show j < 9; omega)
        obtain ⟨hdc, hlt, hkd⟩ := piece_Parse.dec j hps
        rw [hdc] at hnx
        have hit2 := Lib.iterAt_heap wr w.heap.size piece_Parse.str j (j + 1) hit
        have hbw2 := Lib.below_iterAt hbw (k := w.heap.size) (Nat.le_refl _) piece_Parse.str (j + 1)
        obtain ⟨W, hWd⟩ : ∃ W, wr.iterAt w.heap.size piece_Parse.str (j + 1) = W := ⟨_, rfl⟩
        rw [hWd] at hnx hit2 hbw2
        obtain ⟨R, hR⟩ : ∃ R, piece_Parse.tab.getD j 0 = R := ⟨_, rfl⟩
        rw [hR] at hnx hkd hlt
        have HR := Lib.hid hR; clear hR
        have HW := Lib.hid hWd; clear hWd
        have HD := Lib.hid hdc; clear hdc
        have HKD := Lib.hid hkd; clear hkd
        by_cases hz : j = 0
        · have b3 : ((j : Int) == 0) = true := by rw [beq_iff_eq]; omega
          have HZ := Lib.hid hz; clear hz
          go_wp2
          go_roundg g'
          case measure => omega
          case rel => exact ⟨j + 1, by omega, hit2, hbw2, Lib.hid (fun q h1 hq => by have := HZ.out; omega), by omega⟩
        · have b3 : ((j : Int) == 0) = false := by rw [beq_eq_false_iff_ne]; omega
          have hkj : piece_Parse.kind (R : Int) = (j : Int) := HKD.out hz
          by_cases hk : L = (R : Int)
          · have b4 : ((R : Int) != L) = false := by rw [bne_eq_false_iff_eq]; exact hk.symm
            have hat : piece_Parse.look _ L a1 = some r := HAT.out
            unfold piece_Parse.look at hat
            rw [hk, hkj, if_neg (by omega)] at hat
            have HK := Lib.hid hk; clear hk
            have HZ := Lib.hid hz; clear hz
            have HKJ := Lib.hid hkj; clear hkj
            cases a1
            · rw [if_neg (by decide)] at hat; have hOf := Lib.hid hat; clear hat
              go_wp2_with (go_at_call 17; refine (piece_Of.calls _ _ _ _ hOf.out).mono ?_; rintro e w' ⟨rfl, ⟨nd, rfl⟩⟩)
              go_ret
              exact ⟨rfl, pw_below_drewN hbw2 _⟩
            · rw [if_pos rfl] at hat
              obtain ⟨t, hUp, hOf⟩ := Option.bind_eq_some_iff.mp hat
              clear hat
              have HUp := Lib.hid hUp; clear hUp
              have HOf := Lib.hid hOf; clear hOf
              go_wp2_with (go_at_call 23; refine (piece_Up.calls _ _ _ HUp.out).mono ?_; rintro e w' ⟨rfl, ⟨nd, rfl⟩⟩)
              go_wp2_with (go_at_call 17; refine (piece_Of.calls _ _ _ _ HOf.out).mono ?_; rintro e w' ⟨rfl, ⟨nd2, rfl⟩⟩)
              go_ret
              exact ⟨rfl, pw_below_drewN hbw2 _⟩
          · have b4 : ((R : Int) != L) = true := by rw [bne_iff_ne]; exact fun h => hk h.symm
            have HK := Lib.hid hk; clear hk
            have HZ := Lib.hid hz; clear hz
            have HKJ := Lib.hid hkj; clear hkj
            go_wp2
            go_roundg g'
            case measure => omega
            case rel => exact ⟨j + 1, by omega, hit2, hbw2, Lib.hid (fun q h1 hq he => by
              rcases Nat.lt_succ_iff_lt_or_eq.1 hq with h | h
              · exact hall.out q h1 h he
              · exact HK.out (by rw [he, h, HR.out])), by omega⟩
      · obtain rfl : j = 9 := by omega
        have hnx : ∀ ty, (Instr.next (.pointer (some ⟨w.heap.size, 0, none⟩)) true ty).run Try.prog wr = _ := fun ty => Lib.run_next_end_at wr w.heap.size piece_Parse.str 9 ty hit (by show ¬ (9 < 9); omega)
        have hr0 : r = 0 := by
          have hat : piece_Parse.look _ L a1 = some r := HAT.out
          rcases piece_Parse.kind_cases L with h0 | ⟨q, h1, h2, h3⟩
          · unfold piece_Parse.look at hat
            rw [h0, if_pos rfl] at hat
            exact (Option.some.inj hat).symm
          · exact absurd h3 (hall.out q h1 h2)
        have HR0 := Lib.hid hr0; clear hr0
        go_wp2
        go_ret
        exact ⟨by rw [HR0.out]; rfl, hbw⟩

/-! ### kakugyolaw02_PieceParses: function 8 -/
def kakugyolaw02_PieceParses.l0 : Nat → Int → Bool → Int → Int → Int → Option (Bool)
  | 0, _, _, _, _, _ => none
  | k + 1, x0, x1, x5, x6, x7 => if x7 < 32 then ((kakugyoref02_Name.f k x7).bind fun t193 => (if x1 = true then (if 1 + (Utf8.encode x0).size ≤ 9223372036854775807 then (if t193.toList = ((⟨#[43]⟩ : ByteArray) ++ (Utf8.encode x0)).toList then (kakugyolaw02_PieceParses.l0 k x0 x1 x5 x7 (wrap64 (x7 + 1))) else (kakugyolaw02_PieceParses.l0 k x0 x1 x5 x6 (wrap64 (x7 + 1)))) else (none)) else (if t193.toList = (Utf8.encode x0).toList then (kakugyolaw02_PieceParses.l0 k x0 x1 x5 x7 (wrap64 (x7 + 1))) else (kakugyolaw02_PieceParses.l0 k x0 x1 x5 x6 (wrap64 (x7 + 1)))))) else (some ((wrap64 (x5)) == x6))
def kakugyolaw02_PieceParses.f (k : Nat) (a0 : Int) (a1 : Bool) : Option (Bool) := (kakugyolaw02_names.f k).bind fun t191 => (if t191 = true then ((piece_Parse.f a0 a1).bind fun t192 => (kakugyolaw02_PieceParses.l0 k a0 a1 t192 0 1)) else (some false))
theorem kakugyolaw02_PieceParses.mono_l : ∀ k, (∀ y0 y1 y2 y3 y4, LeO (kakugyolaw02_PieceParses.l0 k y0 y1 y2 y3 y4) (kakugyolaw02_PieceParses.l0 (k + 1) y0 y1 y2 y3 y4))
  | 0 => fun _ _ _ _ _ r h => by simp [kakugyolaw02_PieceParses.l0] at h
  | k + 1 => by
    have ih0 := kakugyolaw02_PieceParses.mono_l k
    · intro y0 y1 y2 y3 y4
      unfold kakugyolaw02_PieceParses.l0
      repeat' first
      | (with_reducible exact ih0 _ _ _ _ _)
      | (with_reducible exact kakugyolaw02_names.mono _)
      | (with_reducible exact kakugyoref02_Name.mono _ _)
      | (with_reducible exact LeO.refl _)
      | (with_reducible exact LeO.none _)
      | (with_reducible refine LeO.ite ?_ ?_)
      | (with_reducible refine LeO.bind ?_ (fun _ => ?_))
      | exact ih0 _ _ _ _ _
      | exact kakugyolaw02_names.mono _
      | exact kakugyoref02_Name.mono _ _
      | exact LeO.none _
      | refine LeO.ite ?_ ?_
      | refine LeO.bind ?_ (fun _ => ?_)
theorem kakugyolaw02_PieceParses.mono : ∀ a0 a1 k, LeO (kakugyolaw02_PieceParses.f k a0 a1) (kakugyolaw02_PieceParses.f (k + 1) a0 a1) := by
  intro a0 a1 k
  have ih0 := kakugyolaw02_PieceParses.mono_l k
  unfold kakugyolaw02_PieceParses.f
  repeat' first
      | (with_reducible exact ih0 _ _ _ _ _)
      | (with_reducible exact kakugyolaw02_names.mono _)
      | (with_reducible exact kakugyoref02_Name.mono _ _)
      | (with_reducible exact LeO.refl _)
      | (with_reducible exact LeO.none _)
      | (with_reducible refine LeO.ite ?_ ?_)
      | (with_reducible refine LeO.bind ?_ (fun _ => ?_))
      | exact ih0 _ _ _ _ _
      | exact kakugyolaw02_names.mono _
      | exact kakugyoref02_Name.mono _ _
      | exact LeO.none _
      | refine LeO.ite ?_ ?_
      | refine LeO.bind ?_ (fun _ => ?_)
set_option maxHeartbeats 8000000 in
set_option maxRecDepth 100000 in
theorem kakugyolaw02_PieceParses.calls (k : Nat) (a0 : Int) (a1 : Bool) (r : Bool) (w : World) (h : kakugyolaw02_PieceParses.f k a0 a1 = some r) :
    Calls Try.prog 8 #[.int .i32 a0, .bool a1] w fun e w' => e = .returned (.bool r) ∧ Below w.heap.size w w' := by
  have HB := Aside0.mk (Below.refl w.heap.size w)
  have H : ((kakugyolaw02_names.f k).bind fun t191 => (if t191 = true then ((piece_Parse.f a0 a1).bind fun t192 => (kakugyolaw02_PieceParses.l0 k a0 a1 t192 0 1)) else (some false))) = some r := h
  clear h
  replace H := Option.bind_eq_some_iff.mp H
  obtain ⟨t191, A30, H⟩ := H
  replace H : (if t191 = true then ((piece_Parse.f a0 a1).bind fun t192 => (kakugyolaw02_PieceParses.l0 k a0 a1 t192 0 1)) else (some false)) = some r := H
  have A3 := Aside0.mk A30
  clear A30
  by_cases c4 : t191 = true
  · subst c4
    have H1 : ((piece_Parse.f a0 a1).bind fun t192 => (kakugyolaw02_PieceParses.l0 k a0 a1 t192 0 1)) = some r := by rw [if_pos rfl] at H; exact H
    clear H
    have H := H1
    clear H1
    replace H := Option.bind_eq_some_iff.mp H
    obtain ⟨t192, A50, H⟩ := H
    replace H : (kakugyolaw02_PieceParses.l0 k a0 a1 t192 0 1) = some r := H
    have A5 := Aside0.mk A50
    clear A50
    have H' := Aside0.mk H
    clear H
    go_enter Try.func8, Try.ntmps8
    go_wp2_with (first | ((with_reducible refine gate_callee (f := 10) rfl ?_); refine goesL_ (some 9) rfl rfl Try.func10 (by kernel_rfl) rfl #[] rfl (by (try simp only [List.map_toArray, List.map_cons, List.map_nil]); first | done | rfl | (simp only [List.length_drop, List.length_take]; rfl)) ?_; (with_reducible refine (kakugyolaw02_names.calls k  true _ A3.out).mono ?_); rintro e w6 ⟨rfl, hb⟩; refine ⟨_, rfl, ?_⟩; have n0_ := Aside0.mk (below_step (by repeat (first | (with_reducible first | exact HB.out | apply below_alloc | apply pw_below_drewN | apply below_drew1) | exact HB.out)) hb); clear HB; have HB := n0_; clear n0_; (try clear hb); (try clear hb2); (try clear hk); (try clear hi)) | ((with_reducible refine gate_callee (f := 27) rfl ?_); refine goesL_ (some 13) rfl rfl Try.func27 (by kernel_rfl) rfl #[.int .i32 a0, .bool a1] rfl (by (try simp only [List.map_toArray, List.map_cons, List.map_nil]); first | done | rfl | (simp only [List.length_drop, List.length_take]; rfl)) ?_; (with_reducible refine (piece_Parse.calls a0 a1 t192 _ A5.out).mono ?_); rintro e w7 ⟨rfl, hb⟩; refine ⟨_, rfl, ?_⟩; have n0_ := Aside0.mk (below_step (by repeat (first | (with_reducible first | exact HB.out | apply below_alloc | apply pw_below_drewN | apply below_drew1) | exact HB.out)) hb); clear HB; have HB := n0_; clear n0_; (try clear hb); (try clear hb2); (try clear hk); (try clear hi)))
    go_loopg [6, 7] k (fun kq v6 v7 w' => ∃ (x6_1 : Int) (x7_1 : Int), v6 = .int .i64 x6_1 ∧ v7 = .int .i64 x7_1 ∧ Aside0 (kakugyolaw02_PieceParses.l0 kq a0 a1 t192 x6_1 x7_1 = some r) ∧ Aside0 (kq ≤ k) ∧ Aside0 (Below w.heap.size w w'))
    case atStart => exact ⟨(0), (1), (by first | rfl | (simp; done) | (simp [*]; done)), (by first | rfl | (simp; done) | (simp [*]; done)), H', ⟨Nat.le_refl _⟩, ⟨by repeat (first | (with_reducible first | exact HB.out | apply below_alloc | apply pw_below_drewN | apply below_drew1) | exact HB.out)⟩⟩
    case round =>
      clear H'
      try clear c1
      try clear c2
      try clear p2
      try clear c4
      obtain ⟨x6_1, x7_1, rfl, rfl, HA, HK1, HB⟩ := hrel
      cases gk with
      | zero => exact absurd HA.out (by simp [kakugyolaw02_PieceParses.l0])
      | succ k1 =>
        have H := HA.out
        clear HA
        simp only [kakugyolaw02_PieceParses.l0] at H
        by_cases c8 : x7_1 < 32
        · rw [if_pos c8] at H
          have c8b0 : decide (x7_1 < 32) = true := decide_eq_true c8
          clear c8
          replace H := Option.bind_eq_some_iff.mp H
          obtain ⟨t193, A90, H⟩ := H
          replace H : (if a1 = true then (if 1 + (Utf8.encode a0).size ≤ 9223372036854775807 then (if t193.toList = ((⟨#[43]⟩ : ByteArray) ++ (Utf8.encode a0)).toList then (kakugyolaw02_PieceParses.l0 k1 a0 a1 t192 x7_1 (wrap64 (x7_1 + 1))) else (kakugyolaw02_PieceParses.l0 k1 a0 a1 t192 x6_1 (wrap64 (x7_1 + 1)))) else (none)) else (if t193.toList = (Utf8.encode a0).toList then (kakugyolaw02_PieceParses.l0 k1 a0 a1 t192 x7_1 (wrap64 (x7_1 + 1))) else (kakugyolaw02_PieceParses.l0 k1 a0 a1 t192 x6_1 (wrap64 (x7_1 + 1))))) = some r := H
          have A9 := Aside0.mk A90
          clear A90
          by_cases c10 : a1 = true
          · subst c10
            have H1 : (if 1 + (Utf8.encode a0).size ≤ 9223372036854775807 then (if t193.toList = ((⟨#[43]⟩ : ByteArray) ++ (Utf8.encode a0)).toList then (kakugyolaw02_PieceParses.l0 k1 a0 true t192 x7_1 (wrap64 (x7_1 + 1))) else (kakugyolaw02_PieceParses.l0 k1 a0 true t192 x6_1 (wrap64 (x7_1 + 1)))) else (none)) = some r := by rw [if_pos rfl] at H; exact H
            clear H
            have H := H1
            clear H1
            by_cases c11 : 1 + (Utf8.encode a0).size ≤ 9223372036854775807
            · rw [if_pos c11] at H
              have c11b0 := eq_true c11
              have c11b1 : decide (1 + (Utf8.encode a0).size ≤ 9223372036854775807) = true := decide_eq_true c11
              try have c11b2 : (9223372036854775807 < 1 + (Utf8.encode a0).size) = False := eq_false (Nat.not_lt.2 c11)
              by_cases c12 : t193.toList = ((⟨#[43]⟩ : ByteArray) ++ (Utf8.encode a0)).toList
              · rw [if_pos c12] at H
                have c12b0 : (t193.toList == ((⟨#[43]⟩ : ByteArray) ++ (Utf8.encode a0)).toList) = true := beq_iff_eq.mpr c12
                have c12b1 : (t193.toList != ((⟨#[43]⟩ : ByteArray) ++ (Utf8.encode a0)).toList) = false := bne_eq_false_iff_eq.mpr c12
                clear c12
                have H' := Aside0.mk H
                clear H
                go_wp2_with (first | ((with_reducible refine gate_callee (f := 16) rfl ?_); refine goesL_ (some 19) rfl rfl Try.func16 (by kernel_rfl) rfl #[.int .i64 x7_1] rfl (by (try simp only [List.map_toArray, List.map_cons, List.map_nil]); first | done | rfl | (simp only [List.length_drop, List.length_take]; rfl)) ?_; (with_reducible refine (kakugyoref02_Name.calls k1 x7_1 t193 _ A9.out).mono ?_); rintro e w13 ⟨rfl, hb⟩; refine ⟨_, rfl, ?_⟩; have n0_ := Aside0.mk (below_step (by repeat (first | (with_reducible first | exact HB.out | apply below_alloc | apply pw_below_drewN | apply below_drew1) | exact HB.out)) hb); clear HB; have HB := n0_; clear n0_; (try clear hb); (try clear hb2); (try clear hk); (try clear hi)))
                go_roundg k1
                case measure => have := HK1.out; omega
                case rel => exact ⟨(x7_1), (wrap64 (x7_1 + 1)), (by first | rfl | (simp; done) | (simp [*]; done)), (by first | rfl | (simp; done) | (simp [*]; done)), H', ⟨by have := HK1.out; omega⟩, ⟨by repeat (first | (with_reducible first | exact HB.out | apply below_alloc | apply pw_below_drewN | apply below_drew1) | exact HB.out)⟩⟩
              · rw [if_neg c12] at H
                have c12b0 : (t193.toList == ((⟨#[43]⟩ : ByteArray) ++ (Utf8.encode a0)).toList) = false := beq_eq_false_iff_ne.mpr c12
                have c12b1 : (t193.toList != ((⟨#[43]⟩ : ByteArray) ++ (Utf8.encode a0)).toList) = true := bne_iff_ne.mpr c12
                have H' := Aside0.mk H
                clear H
                go_wp2_with (first | ((with_reducible refine gate_callee (f := 16) rfl ?_); refine goesL_ (some 19) rfl rfl Try.func16 (by kernel_rfl) rfl #[.int .i64 x7_1] rfl (by (try simp only [List.map_toArray, List.map_cons, List.map_nil]); first | done | rfl | (simp only [List.length_drop, List.length_take]; rfl)) ?_; (with_reducible refine (kakugyoref02_Name.calls k1 x7_1 t193 _ A9.out).mono ?_); rintro e w14 ⟨rfl, hb⟩; refine ⟨_, rfl, ?_⟩; have n0_ := Aside0.mk (below_step (by repeat (first | (with_reducible first | exact HB.out | apply below_alloc | apply pw_below_drewN | apply below_drew1) | exact HB.out)) hb); clear HB; have HB := n0_; clear n0_; (try clear hb); (try clear hb2); (try clear hk); (try clear hi)))
                go_roundg k1
                case measure => have := HK1.out; omega
                case rel => exact ⟨(x6_1), (wrap64 (x7_1 + 1)), (by first | rfl | (simp; done) | (simp [*]; done)), (by first | rfl | (simp; done) | (simp [*]; done)), H', ⟨by have := HK1.out; omega⟩, ⟨by repeat (first | (with_reducible first | exact HB.out | apply below_alloc | apply pw_below_drewN | apply below_drew1) | exact HB.out)⟩⟩
            · rw [if_neg c11] at H
              exact absurd H (by simp)
          · replace c10 := Bool.eq_false_iff.mpr c10
            subst c10
            have H1 : (if t193.toList = (Utf8.encode a0).toList then (kakugyolaw02_PieceParses.l0 k1 a0 false t192 x7_1 (wrap64 (x7_1 + 1))) else (kakugyolaw02_PieceParses.l0 k1 a0 false t192 x6_1 (wrap64 (x7_1 + 1)))) = some r := by rw [if_neg (show ¬ (false = true) by decide)] at H; exact H
            clear H
            have H := H1
            clear H1
            by_cases c15 : t193.toList = (Utf8.encode a0).toList
            · rw [if_pos c15] at H
              have c15b0 : (t193.toList == (Utf8.encode a0).toList) = true := beq_iff_eq.mpr c15
              have c15b1 : (t193.toList != (Utf8.encode a0).toList) = false := bne_eq_false_iff_eq.mpr c15
              clear c15
              have H' := Aside0.mk H
              clear H
              go_wp2_with (first | ((with_reducible refine gate_callee (f := 16) rfl ?_); refine goesL_ (some 19) rfl rfl Try.func16 (by kernel_rfl) rfl #[.int .i64 x7_1] rfl (by (try simp only [List.map_toArray, List.map_cons, List.map_nil]); first | done | rfl | (simp only [List.length_drop, List.length_take]; rfl)) ?_; (with_reducible refine (kakugyoref02_Name.calls k1 x7_1 t193 _ A9.out).mono ?_); rintro e w16 ⟨rfl, hb⟩; refine ⟨_, rfl, ?_⟩; have n0_ := Aside0.mk (below_step (by repeat (first | (with_reducible first | exact HB.out | apply below_alloc | apply pw_below_drewN | apply below_drew1) | exact HB.out)) hb); clear HB; have HB := n0_; clear n0_; (try clear hb); (try clear hb2); (try clear hk); (try clear hi)))
              go_roundg k1
              case measure => have := HK1.out; omega
              case rel => exact ⟨(x7_1), (wrap64 (x7_1 + 1)), (by first | rfl | (simp; done) | (simp [*]; done)), (by first | rfl | (simp; done) | (simp [*]; done)), H', ⟨by have := HK1.out; omega⟩, ⟨by repeat (first | (with_reducible first | exact HB.out | apply below_alloc | apply pw_below_drewN | apply below_drew1) | exact HB.out)⟩⟩
            · rw [if_neg c15] at H
              have c15b0 : (t193.toList == (Utf8.encode a0).toList) = false := beq_eq_false_iff_ne.mpr c15
              have c15b1 : (t193.toList != (Utf8.encode a0).toList) = true := bne_iff_ne.mpr c15
              have H' := Aside0.mk H
              clear H
              go_wp2_with (first | ((with_reducible refine gate_callee (f := 16) rfl ?_); refine goesL_ (some 19) rfl rfl Try.func16 (by kernel_rfl) rfl #[.int .i64 x7_1] rfl (by (try simp only [List.map_toArray, List.map_cons, List.map_nil]); first | done | rfl | (simp only [List.length_drop, List.length_take]; rfl)) ?_; (with_reducible refine (kakugyoref02_Name.calls k1 x7_1 t193 _ A9.out).mono ?_); rintro e w17 ⟨rfl, hb⟩; refine ⟨_, rfl, ?_⟩; have n0_ := Aside0.mk (below_step (by repeat (first | (with_reducible first | exact HB.out | apply below_alloc | apply pw_below_drewN | apply below_drew1) | exact HB.out)) hb); clear HB; have HB := n0_; clear n0_; (try clear hb); (try clear hb2); (try clear hk); (try clear hi)))
              go_roundg k1
              case measure => have := HK1.out; omega
              case rel => exact ⟨(x6_1), (wrap64 (x7_1 + 1)), (by first | rfl | (simp; done) | (simp [*]; done)), (by first | rfl | (simp; done) | (simp [*]; done)), H', ⟨by have := HK1.out; omega⟩, ⟨by repeat (first | (with_reducible first | exact HB.out | apply below_alloc | apply pw_below_drewN | apply below_drew1) | exact HB.out)⟩⟩
        · rw [if_neg c8] at H
          have c8b0 : decide (x7_1 < 32) = false := decide_eq_false c8
          clear c8
          obtain rfl := Option.some.inj H
          go_wp2
          go_ret
          exact ⟨by first | rfl | (simp [errW_none, errW_some] <;> rfl) | (simp [*, errW_none, errW_some] <;> rfl) | (simp [*, errW_none, errW_some]; generalize ByteArray.toList _ = q_; cases q_ <;> rfl), by repeat (first | (with_reducible first | exact HB.out | apply below_alloc | apply pw_below_drewN | apply below_drew1) | exact HB.out)⟩
  · replace c4 := Bool.eq_false_iff.mpr c4
    subst c4
    have H1 : (some false) = some r := by rw [if_neg (show ¬ (false = true) by decide)] at H; exact H
    clear H
    have H := H1
    clear H1
    obtain rfl := Option.some.inj H
    go_enter Try.func8, Try.ntmps8
    go_wp2_with (first | ((with_reducible refine gate_callee (f := 10) rfl ?_); refine goesL_ (some 9) rfl rfl Try.func10 (by kernel_rfl) rfl #[] rfl (by (try simp only [List.map_toArray, List.map_cons, List.map_nil]); first | done | rfl | (simp only [List.length_drop, List.length_take]; rfl)) ?_; (with_reducible refine (kakugyolaw02_names.calls k  false _ A3.out).mono ?_); rintro e w18 ⟨rfl, hb⟩; refine ⟨_, rfl, ?_⟩; have n0_ := Aside0.mk (below_step (by repeat (first | (with_reducible first | exact HB.out | apply below_alloc | apply pw_below_drewN | apply below_drew1) | exact HB.out)) hb); clear HB; have HB := n0_; clear n0_; (try clear hb); (try clear hb2); (try clear hk); (try clear hi)))
    go_ret
    exact ⟨by first | rfl | (simp [errW_none, errW_some] <;> rfl) | (simp [*, errW_none, errW_some] <;> rfl) | (simp [*, errW_none, errW_some]; generalize ByteArray.toList _ = q_; cases q_ <;> rfl), by repeat (first | (with_reducible first | exact HB.out | apply below_alloc | apply pw_below_drewN | apply below_drew1) | exact HB.out)⟩

/-- THE ONE PURE STATEMENT of kakugyolaw02_PieceParses: yours. -/
def kakugyolaw02_PieceParses.Pure : Prop := ∀ (a0 : Int) (a1 : Bool), (Lit.int .i32 a0).wf = true → ∃ k, kakugyolaw02_PieceParses.f k a0 a1 = some true
theorem kakugyolaw02_PieceParses.walk (P : kakugyolaw02_PieceParses.Pure) (a0 : Int) (a1 : Bool) (w : World) (w0 : (Lit.int .i32 a0).wf = true) :
    Calls Try.prog 8 #[.int .i32 a0, .bool a1] w fun e w' => e = .returned (.bool true) ∧ Below w.heap.size w w' := by
  obtain ⟨k, h⟩ := P a0 a1 w0
  refine (kakugyolaw02_PieceParses.calls k a0 a1 true w h).mono ?_
  rintro e w' ⟨rfl, hd⟩
  exact ⟨rfl, hd⟩

end Go.Proofs.Ytnmfkhnddnohjaa.Pa
