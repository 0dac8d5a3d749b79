-- Printed by a program of this session: the kit's printer, with contracts of this session's own among its functions.
import Derived.Test.YtmoeodcmfjnihabPax0
import Derived.Test.YtmoeodcmfjnihabPax1
import Derived.Test.YtmoeodcmfjnihabPax3
import Derived.Test.YtmoeodcmfjnihabPax4
import Derived.Test.YtmoeodcmfjnihabPax5
namespace Go.Proofs.Ytmoeodcmfjnihab.Pa
open Go.RowKit Go.Proofs.YtmoeodcmfjnihabW.PrintWords Go.Proofs.YtmoeodcmfjnihabW.PrintLast Go.Proofs.YtmoeodcmfjnihabW.PrintMore
attribute [local go_sem] max2_int min2_int max_two min_two max_three min_three max_four min_four   -- for this text's walks alone
set_option linter.unusedVariables false
set_option linter.unusedSimpArgs false

attribute [local go_sem high] eqA38
/-! ### kakugyolaw07_MoveLonger: function 8 -/
mutual
def kakugyolaw07_MoveLonger.j0 : Nat → ByteArray → ByteArray → Bool → Int → Int → Int → Bool → Option (Bool)
  | 0, _, _, _, _, _, _, _ => none
  | k + 1, x1, x5, x22, x198000, x198001, x198002, x198003 => if x22 = true then (some true) else (if x5.size + x1.size ≤ 9223372036854775807 then ((move_Parse.f (x5 ++ x1)).bind fun bt200 => (if x198002 = 0 then (if x198003 = true then (kakugyolaw07_MoveLonger.j1 k x5 bt200.2.2.2.2 false x198000 x198001 x198002 x198003 bt200.1 bt200.2.1 bt200.2.2.1 bt200.2.2.2.1) else (kakugyolaw07_MoveLonger.j1 k x5 bt200.2.2.2.2 (x1.toList == ([43] : List UInt8)) x198000 x198001 x198002 x198003 bt200.1 bt200.2.1 bt200.2.2.1 bt200.2.2.2.1)) else (kakugyolaw07_MoveLonger.j1 k x5 bt200.2.2.2.2 false x198000 x198001 x198002 x198003 bt200.1 bt200.2.1 bt200.2.2.1 bt200.2.2.2.1))) else (none))
def kakugyolaw07_MoveLonger.j1 : Nat → ByteArray → Int → Bool → Int → Int → Int → Bool → Int → Int → Int → Bool → Option (Bool)
  | 0, _, _, _, _, _, _, _, _, _, _, _ => none
  | k + 1, x5, x7, x41, x198000, x198001, x198002, x198003, x206000, x206001, x206002, x206003 => if x41 = true then (if x7 = 0 then (some (x206000 == x198000 && (x206001 == x198001 && (x206002 == x198002 && (x206003))))) else (some false)) else (if x7 = 70 then (if (!(x206000 == 0) || (!(x206001 == 0) || (!(x206002 == 0) || (x206003)))) = true then (some false) else (if 0 ≤ 3 then (if 3 ≤ (x5.size : Int) then ((move_Parse.f (x5.extract 0 3)).bind fun bt206 => (some (bt206.2.2.2.2 == 70))) else (none)) else (none))) else (some false))
end
def kakugyolaw07_MoveLonger.f (k : Nat) (a0_0 : Int) (a0_1 : Int) (a0_2 : Int) (a0_3 : Bool) (a1 : ByteArray) : Option (Bool) := (kakugyolaw07_names.f k).bind fun t198 => (if t198 = true then ((move_Text.f k a0_0 a0_1 a0_2 a0_3).bind fun t199 => (if t199.toList = ([] : List UInt8) then (kakugyolaw07_MoveLonger.j0 k a1 t199 true a0_0 a0_1 a0_2 a0_3) else (if a1.toList = ([] : List UInt8) then (kakugyolaw07_MoveLonger.j0 k a1 t199 true a0_0 a0_1 a0_2 a0_3) else (kakugyolaw07_MoveLonger.j0 k a1 t199 (decide ((a1.size : Int) > 100)) a0_0 a0_1 a0_2 a0_3)))) else (some false))
theorem kakugyolaw07_MoveLonger.mono_l : ∀ k, (∀ y0 y1 y2 y3 y4 y5 y6, LeO (kakugyolaw07_MoveLonger.j0 k y0 y1 y2 y3 y4 y5 y6) (kakugyolaw07_MoveLonger.j0 (k + 1) y0 y1 y2 y3 y4 y5 y6)) ∧ (∀ y0 y1 y2 y3 y4 y5 y6 y7 y8 y9 y10, LeO (kakugyolaw07_MoveLonger.j1 k y0 y1 y2 y3 y4 y5 y6 y7 y8 y9 y10) (kakugyolaw07_MoveLonger.j1 (k + 1) y0 y1 y2 y3 y4 y5 y6 y7 y8 y9 y10))
  | 0 => ⟨fun _ _ _ _ _ _ _ r h => by simp [kakugyolaw07_MoveLonger.j0] at h, fun _ _ _ _ _ _ _ _ _ _ _ r h => by simp [kakugyolaw07_MoveLonger.j1] at h⟩
  | k + 1 => by
    obtain ⟨ih0, ih1⟩ := kakugyolaw07_MoveLonger.mono_l k
    refine ⟨?_, ?_⟩
    · intro y0 y1 y2 y3 y4 y5 y6
      unfold kakugyolaw07_MoveLonger.j0
      repeat' first
      | (with_reducible exact ih0 _ _ _ _ _ _ _)
      | (with_reducible exact ih1 _ _ _ _ _ _ _ _ _ _ _)
      | (with_reducible exact kakugyolaw07_names.mono _)
      | (with_reducible exact move_Text.mono _ _ _ _ _)
      | (with_reducible exact LeO.refl _)
      | (with_reducible exact LeO.none _)
      | (with_reducible refine LeO.ite ?_ ?_)
      | (with_reducible refine LeO.bind ?_ (fun _ => ?_))
      | exact ih0 _ _ _ _ _ _ _
      | exact ih1 _ _ _ _ _ _ _ _ _ _ _
      | exact kakugyolaw07_names.mono _
      | exact move_Text.mono _ _ _ _ _
      | exact LeO.none _
      | refine LeO.ite ?_ ?_
      | refine LeO.bind ?_ (fun _ => ?_)
    · intro y0 y1 y2 y3 y4 y5 y6 y7 y8 y9 y10
      unfold kakugyolaw07_MoveLonger.j1
      repeat' first
      | (with_reducible exact ih0 _ _ _ _ _ _ _)
      | (with_reducible exact ih1 _ _ _ _ _ _ _ _ _ _ _)
      | (with_reducible exact kakugyolaw07_names.mono _)
      | (with_reducible exact move_Text.mono _ _ _ _ _)
      | (with_reducible exact LeO.refl _)
      | (with_reducible exact LeO.none _)
      | (with_reducible refine LeO.ite ?_ ?_)
      | (with_reducible refine LeO.bind ?_ (fun _ => ?_))
      | exact ih0 _ _ _ _ _ _ _
      | exact ih1 _ _ _ _ _ _ _ _ _ _ _
      | exact kakugyolaw07_names.mono _
      | exact move_Text.mono _ _ _ _ _
      | exact LeO.none _
      | refine LeO.ite ?_ ?_
      | refine LeO.bind ?_ (fun _ => ?_)
theorem kakugyolaw07_MoveLonger.mono : ∀ a0 a1 a2 a3 a4 k, LeO (kakugyolaw07_MoveLonger.f k a0 a1 a2 a3 a4) (kakugyolaw07_MoveLonger.f (k + 1) a0 a1 a2 a3 a4) := by
  intro a0 a1 a2 a3 a4 k
  obtain ⟨ih0, ih1⟩ := kakugyolaw07_MoveLonger.mono_l k
  unfold kakugyolaw07_MoveLonger.f
  repeat' first
      | (with_reducible exact ih0 _ _ _ _ _ _ _)
      | (with_reducible exact ih1 _ _ _ _ _ _ _ _ _ _ _)
      | (with_reducible exact kakugyolaw07_names.mono _)
      | (with_reducible exact move_Text.mono _ _ _ _ _)
      | (with_reducible exact LeO.refl _)
      | (with_reducible exact LeO.none _)
      | (with_reducible refine LeO.ite ?_ ?_)
      | (with_reducible refine LeO.bind ?_ (fun _ => ?_))
      | exact ih0 _ _ _ _ _ _ _
      | exact ih1 _ _ _ _ _ _ _ _ _ _ _
      | exact kakugyolaw07_names.mono _
      | exact move_Text.mono _ _ _ _ _
      | exact LeO.none _
      | refine LeO.ite ?_ ?_
      | refine LeO.bind ?_ (fun _ => ?_)
set_option maxHeartbeats 8000000 in
set_option maxRecDepth 100000 in
theorem kakugyolaw07_MoveLonger.calls (k : Nat) (a0_0 : Int) (a0_1 : Int) (a0_2 : Int) (a0_3 : Bool) (a1 : ByteArray) (r : Bool) (w : World) (h : kakugyolaw07_MoveLonger.f k a0_0 a0_1 a0_2 a0_3 a1 = some r) :
    Calls Try.prog 8 #[.agg #[.int .i64 a0_0, .int .i64 a0_1, .int .i64 a0_2, .bool a0_3], .string a1] w fun e w' => e = .returned (.bool r) ∧ Below w.heap.size w w' := by
  have hu38 := Try.underlying38
  have HB := Aside0.mk (Below.refl w.heap.size w)
  have H : ((kakugyolaw07_names.f k).bind fun t198 => (if t198 = true then ((move_Text.f k a0_0 a0_1 a0_2 a0_3).bind fun t199 => (if t199.toList = ([] : List UInt8) then (kakugyolaw07_MoveLonger.j0 k a1 t199 true a0_0 a0_1 a0_2 a0_3) else (if a1.toList = ([] : List UInt8) then (kakugyolaw07_MoveLonger.j0 k a1 t199 true a0_0 a0_1 a0_2 a0_3) else (kakugyolaw07_MoveLonger.j0 k a1 t199 (decide ((a1.size : Int) > 100)) a0_0 a0_1 a0_2 a0_3)))) else (some false))) = some r := h
  clear h
  replace H := Option.bind_eq_some_iff.mp H
  obtain ⟨t198, A30, H⟩ := H
  replace H : (if t198 = true then ((move_Text.f k a0_0 a0_1 a0_2 a0_3).bind fun t199 => (if t199.toList = ([] : List UInt8) then (kakugyolaw07_MoveLonger.j0 k a1 t199 true a0_0 a0_1 a0_2 a0_3) else (if a1.toList = ([] : List UInt8) then (kakugyolaw07_MoveLonger.j0 k a1 t199 true a0_0 a0_1 a0_2 a0_3) else (kakugyolaw07_MoveLonger.j0 k a1 t199 (decide ((a1.size : Int) > 100)) a0_0 a0_1 a0_2 a0_3)))) else (some false)) = some r := H
  have A3 := Aside0.mk A30
  clear A30
  by_cases c4 : t198 = true
  · subst c4
    have H1 : ((move_Text.f k a0_0 a0_1 a0_2 a0_3).bind fun t199 => (if t199.toList = ([] : List UInt8) then (kakugyolaw07_MoveLonger.j0 k a1 t199 true a0_0 a0_1 a0_2 a0_3) else (if a1.toList = ([] : List UInt8) then (kakugyolaw07_MoveLonger.j0 k a1 t199 true a0_0 a0_1 a0_2 a0_3) else (kakugyolaw07_MoveLonger.j0 k a1 t199 (decide ((a1.size : Int) > 100)) a0_0 a0_1 a0_2 a0_3)))) = some r := by rw [if_pos rfl] at H; exact H
    clear H
    have H := H1
    clear H1
    replace H := Option.bind_eq_some_iff.mp H
    obtain ⟨t199, A50, H⟩ := H
    replace H : (if t199.toList = ([] : List UInt8) then (kakugyolaw07_MoveLonger.j0 k a1 t199 true a0_0 a0_1 a0_2 a0_3) else (if a1.toList = ([] : List UInt8) then (kakugyolaw07_MoveLonger.j0 k a1 t199 true a0_0 a0_1 a0_2 a0_3) else (kakugyolaw07_MoveLonger.j0 k a1 t199 (decide ((a1.size : Int) > 100)) a0_0 a0_1 a0_2 a0_3))) = some r := H
    have A5 := Aside0.mk A50
    clear A50
    have HC6 := Aside0.mk H
    clear H
    go_enter Try.func8, Try.ntmps8
    go_upto_region 4 with (first | ((with_reducible refine gate_dst (N := 2) rfl ?_); (try (refine gate_guard (by rfl) ?_; dsimp only)); refine box_event ?hg (N := 2) ?hd (cs := #[.int .i64 a0_0, .int .i64 a0_1, .int .i64 a0_2, .bool a0_3]) (t := 38) ?hr ?_; (case hd => rfl); (case hg => rfl); (case hr => first | (go_simp; done) | (go_simp; rfl)); intro gb197 hg w7 hbox hb; have n0_ := Aside0.mk (below_step (by repeat (first | (with_reducible first | exact HB.out | apply below_alloc | apply pw_below_drewN | apply below_drew1) | exact HB.out)) hb); have n1_ := Aside0.mk (hbox); have n2_ := Aside0.mk ((by rw [hg]; exact (below_size (by repeat (first | (with_reducible first | exact HB.out | apply below_alloc | apply pw_below_drewN | apply below_drew1) | exact HB.out))) : w.heap.size ≤ gb197)); have n3_ := Aside0.mk ((by rw [hg]; exact (below_size (by repeat (first | (with_reducible first | exact HB.out | apply below_alloc | apply pw_below_drewN | apply below_drew1) | exact HB.out))) : w.heap.size ≤ gb197)); clear HB; have HB := n0_; have BK197 := n1_; have GW197 := n2_; have GE197 := n3_; clear n0_ n1_ n2_ n3_; clear hb hbox hg) | ((with_reducible refine gate_callee (f := 20) rfl ?_); refine goesL_ (some 8) rfl rfl Try.func20 (by kernel_rfl) rfl #[] rfl (by (try simp only [List.map_toArray, List.map_cons, List.map_nil]); first | done | rfl | (simp only [List.length_drop, List.length_take]; rfl)) ?_; (with_reducible refine (kakugyolaw07_names.calls k  true _ A3.out).mono ?_); rintro e w8 ⟨rfl, hb⟩; refine ⟨_, rfl, ?_⟩; have n0_ := Aside0.mk (blk_below (g := gb197) (o := .cells #[.int .i64 a0_0, .int .i64 a0_1, .int .i64 a0_2, .bool a0_3] 38 (0, 0)) (by (with_reducible repeat (first | refine blk_drewN ?_ _ | refine blk_drew ?_ | refine blk_alloc ?_ _)); exact BK197.out) hb); have n1_ := Aside0.mk (below_step (by repeat (first | (with_reducible first | exact HB.out | apply below_alloc | apply pw_below_drewN | apply below_drew1 | refine below_set ?_ GE197.out) | exact HB.out)) hb); clear BK197; clear HB; have BK197 := n0_; have HB := n1_; clear n0_ n1_; (try clear hb); (try clear hb2); (try clear hk); (try clear hi); have hcz9_0 : w8.cell? ⟨gb197, 0, none⟩ = some (.int .i64 a0_0) := (blk_cell BK197.out 0).trans rfl; have hcz9_1 : w8.cell? ⟨gb197, 1, none⟩ = some (.int .i64 a0_1) := (blk_cell BK197.out 1).trans rfl; have hcz9_2 : w8.cell? ⟨gb197, 2, none⟩ = some (.int .i64 a0_2) := (blk_cell BK197.out 2).trans rfl; have hcz9_3 : w8.cell? ⟨gb197, 3, none⟩ = some (.bool a0_3) := (blk_cell BK197.out 3).trans rfl; have hfz9_0 := blk_frozen BK197.out 0; have hfz9_1 := blk_frozen BK197.out 1; have hfz9_2 := blk_frozen BK197.out 2; have hfz9_3 := blk_frozen BK197.out 3) | ((with_reducible refine gate_callee (f := 21) rfl ?_); refine goesL_ (some 11) rfl rfl Try.func21 (by kernel_rfl) rfl #[.agg #[.int .i64 a0_0, .int .i64 a0_1, .int .i64 a0_2, .bool a0_3]] rfl (by (try simp only [List.map_toArray, List.map_cons, List.map_nil]); first | done | rfl | (simp only [List.length_drop, List.length_take]; rfl)) ?_; (with_reducible refine (move_Text.calls k a0_0 a0_1 a0_2 a0_3 t199 _ A5.out).mono ?_); rintro e w10 ⟨rfl, hb⟩; refine ⟨_, rfl, ?_⟩; have n0_ := Aside0.mk (blk_below (g := gb197) (o := .cells #[.int .i64 a0_0, .int .i64 a0_1, .int .i64 a0_2, .bool a0_3] 38 (0, 0)) (by (with_reducible repeat (first | refine blk_drewN ?_ _ | refine blk_drew ?_ | refine blk_alloc ?_ _)); exact BK197.out) hb); have n1_ := Aside0.mk (below_step (by repeat (first | (with_reducible first | exact HB.out | apply below_alloc | apply pw_below_drewN | apply below_drew1 | refine below_set ?_ GE197.out) | exact HB.out)) hb); clear BK197; clear HB; have BK197 := n0_; have HB := n1_; clear n0_ n1_; (try clear hb); (try clear hb2); (try clear hk); (try clear hi)))
    (try simp only [Act.put, List.setIfInBounds_toArray, List.set_cons_zero, List.set_cons_succ])
    go_cut [22] (fun v22 wc => ∃ (kq : Nat) (x22_5 : Bool), v22 = .bool x22_5 ∧ Aside0 (kakugyolaw07_MoveLonger.j0 kq a1 t199 x22_5 a0_0 a0_1 a0_2 a0_3 = some r) ∧ Aside0 (kq ≤ k) ∧ Aside0 (wc.heap[gb197]? = some (.cells #[.int .i64 a0_0, .int .i64 a0_1, .int .i64 a0_2, .bool a0_3] 38 (0, 0))) ∧ Aside0 (Below w.heap.size w wc))
    case first =>
      have H := HC6.out
      clear HC6
      by_cases c11 : t199.toList = ([] : List UInt8)
      · rw [if_pos c11] at H
        have c11b0 : (t199.toList == ([] : List UInt8)) = true := beq_iff_eq.mpr c11
        have c11b1 : (t199.toList != ([] : List UInt8)) = false := bne_eq_false_iff_eq.mpr c11
        clear c11
        (first | rw [c11b0] | (simp only [i64_w, i32_w]; rw [c11b0]) | skip)
        have H' := Aside0.mk H
        clear H
        go_wp2
        go_meet
        case rel => exact ⟨_, (true), (by first | rfl | (simp; done) | (simp [*]; done)), H', ⟨by first | omega | exact Nat.le_refl _⟩, ⟨by (with_reducible repeat (first | refine blk_drewN ?_ _ | refine blk_drew ?_ | refine blk_alloc ?_ _)); exact BK197.out⟩, ⟨by repeat (first | (with_reducible first | exact HB.out | apply below_alloc | apply pw_below_drewN | apply below_drew1 | refine below_set ?_ GE197.out) | exact HB.out)⟩⟩
      · rw [if_neg c11] at H
        have c11b0 : (t199.toList == ([] : List UInt8)) = false := beq_eq_false_iff_ne.mpr c11
        have c11b1 : (t199.toList != ([] : List UInt8)) = true := bne_iff_ne.mpr c11
        (first | rw [c11b0] | (simp only [i64_w, i32_w]; rw [c11b0]) | skip)
        by_cases c12 : a1.toList = ([] : List UInt8)
        · rw [if_pos c12] at H
          have c12b0 : (a1.toList == ([] : List UInt8)) = true := beq_iff_eq.mpr c12
          have c12b1 : (a1.toList != ([] : List UInt8)) = false := bne_eq_false_iff_eq.mpr c12
          clear c12
          have H' := Aside0.mk H
          clear H
          go_wp2
          go_meet
          case rel => exact ⟨_, (true), (by first | rfl | (simp; done) | (simp [*]; done)), H', ⟨by first | omega | exact Nat.le_refl _⟩, ⟨by (with_reducible repeat (first | refine blk_drewN ?_ _ | refine blk_drew ?_ | refine blk_alloc ?_ _)); exact BK197.out⟩, ⟨by repeat (first | (with_reducible first | exact HB.out | apply below_alloc | apply pw_below_drewN | apply below_drew1 | refine below_set ?_ GE197.out) | exact HB.out)⟩⟩
        · rw [if_neg c12] at H
          have c12b0 : (a1.toList == ([] : List UInt8)) = false := beq_eq_false_iff_ne.mpr c12
          have c12b1 : (a1.toList != ([] : List UInt8)) = true := bne_iff_ne.mpr c12
          have H' := Aside0.mk H
          clear H
          go_wp2
          go_meet
          case rel => exact ⟨_, (decide ((a1.size : Int) > 100)), (by first | rfl | (simp; done) | (simp [*]; done)), H', ⟨by first | omega | exact Nat.le_refl _⟩, ⟨by (with_reducible repeat (first | refine blk_drewN ?_ _ | refine blk_drew ?_ | refine blk_alloc ?_ _)); exact BK197.out⟩, ⟨by repeat (first | (with_reducible first | exact HB.out | apply below_alloc | apply pw_below_drewN | apply below_drew1 | refine below_set ?_ GE197.out) | exact HB.out)⟩⟩
    case rest =>
      clear HC6
      try clear c1
      try clear c2
      try clear p2
      try clear c4
      try clear c8
      try clear c11
      try clear c11b0
      try clear c11b1
      try clear c12
      try clear c12b0
      try clear c12b1
      try clear hcz9_0
      try clear hcz9_1
      try clear hcz9_2
      try clear hcz9_3
      try clear hfz9_0
      try clear hfz9_1
      try clear hfz9_2
      try clear hfz9_3
      obtain ⟨kq, x22_5, rfl, HA, HJ5, BK197, HB⟩ := hcut
      cases kq with
      | zero => exact absurd HA.out (by simp [kakugyolaw07_MoveLonger.j0])
      | succ kj5 =>
        have H := HA.out
        clear HA
        simp only [kakugyolaw07_MoveLonger.j0] at H
        by_cases c13 : x22_5 = true
        · subst c13
          have H1 : (some true) = some r := by rw [if_pos rfl] at H; exact H
          clear H
          have H := H1
          clear H1
          obtain rfl := Option.some.inj H
          go_wp2
          go_ret
          exact ⟨by first | rfl | (simp [errW_none, errW_some] <;> rfl) | (simp [*, errW_none, errW_some] <;> rfl) | (simp [*, errW_none, errW_some]; generalize ByteArray.toList _ = q_; cases q_ <;> rfl), by repeat (first | (with_reducible first | exact HB.out | apply below_alloc | apply pw_below_drewN | apply below_drew1 | refine below_set ?_ GE197.out) | exact HB.out)⟩
        · replace c13 := Bool.eq_false_iff.mpr c13
          subst c13
          have H1 : (if t199.size + a1.size ≤ 9223372036854775807 then ((move_Parse.f (t199 ++ a1)).bind fun bt200 => (if a0_2 = 0 then (if a0_3 = true then (kakugyolaw07_MoveLonger.j1 kj5 t199 bt200.2.2.2.2 false a0_0 a0_1 a0_2 a0_3 bt200.1 bt200.2.1 bt200.2.2.1 bt200.2.2.2.1) else (kakugyolaw07_MoveLonger.j1 kj5 t199 bt200.2.2.2.2 (a1.toList == ([43] : List UInt8)) a0_0 a0_1 a0_2 a0_3 bt200.1 bt200.2.1 bt200.2.2.1 bt200.2.2.2.1)) else (kakugyolaw07_MoveLonger.j1 kj5 t199 bt200.2.2.2.2 false a0_0 a0_1 a0_2 a0_3 bt200.1 bt200.2.1 bt200.2.2.1 bt200.2.2.2.1))) else (none)) = some r := by rw [if_neg (show ¬ (false = true) by decide)] at H; exact H
          clear H
          have H := H1
          clear H1
          by_cases c14 : t199.size + a1.size ≤ 9223372036854775807
          · rw [if_pos c14] at H
            have c14b0 := eq_true c14
            have c14b1 : decide (t199.size + a1.size ≤ 9223372036854775807) = true := decide_eq_true c14
            try have c14b2 : (9223372036854775807 < t199.size + a1.size) = False := eq_false (Nat.not_lt.2 c14)
            replace H := Option.bind_eq_some_iff.mp H
            obtain ⟨⟨t200, t201, t202, t203, t204⟩, A150, H⟩ := H
            replace H : (if a0_2 = 0 then (if a0_3 = true then (kakugyolaw07_MoveLonger.j1 kj5 t199 t204 false a0_0 a0_1 a0_2 a0_3 t200 t201 t202 t203) else (kakugyolaw07_MoveLonger.j1 kj5 t199 t204 (a1.toList == ([43] : List UInt8)) a0_0 a0_1 a0_2 a0_3 t200 t201 t202 t203)) else (kakugyolaw07_MoveLonger.j1 kj5 t199 t204 false a0_0 a0_1 a0_2 a0_3 t200 t201 t202 t203)) = some r := H
            have A15 := Aside0.mk A150
            clear A150
            have HC16 := Aside0.mk H
            clear H
            go_upto_region 7 with (first | ((with_reducible refine gate_callee (f := 25) rfl ?_); refine goesL_ (some 27) rfl rfl Try.func25 (by kernel_rfl) rfl #[.string (t199 ++ a1)] rfl (by (try simp only [List.map_toArray, List.map_cons, List.map_nil]); first | done | rfl | (simp only [List.length_drop, List.length_take]; rfl)) ?_; (with_reducible refine (move_Parse.calls (t199 ++ a1) t200 t201 t202 t203 t204 _ A15.out).mono ?_); rintro e w17 ⟨rfl, hb⟩; refine ⟨_, rfl, ?_⟩; have n0_ := Aside0.mk (blk_below (g := gb197) (o := .cells #[.int .i64 a0_0, .int .i64 a0_1, .int .i64 a0_2, .bool a0_3] 38 (0, 0)) (by (with_reducible repeat (first | refine blk_drewN ?_ _ | refine blk_drew ?_ | refine blk_alloc ?_ _)); exact BK197.out) hb); have n1_ := Aside0.mk (below_step (by repeat (first | (with_reducible first | exact HB.out | apply below_alloc | apply pw_below_drewN | apply below_drew1 | refine below_set ?_ GE197.out) | exact HB.out)) hb); clear BK197; clear HB; have BK197 := n0_; have HB := n1_; clear n0_ n1_; (try clear hb); (try clear hb2); (try clear hk); (try clear hi)) | ((with_reducible refine gate_dst (N := 6) rfl ?_); (try (refine gate_guard (by rfl) ?_; dsimp only)); refine box_event ?hg (N := 6) ?hd (cs := #[.int .i64 0, .int .i64 0, .int .i64 0, .bool false]) (t := 38) ?hr ?_; (case hd => rfl); (case hg => rfl); (case hr => first | (go_simp; done) | (go_simp; rfl)); intro gb205 hg w18 hbox hb; have n0_ := Aside0.mk (blk_below (g := gb197) (o := .cells #[.int .i64 a0_0, .int .i64 a0_1, .int .i64 a0_2, .bool a0_3] 38 (0, 0)) (by (with_reducible repeat (first | refine blk_drewN ?_ _ | refine blk_drew ?_ | refine blk_alloc ?_ _)); exact BK197.out) hb); have n1_ := Aside0.mk (below_step (by repeat (first | (with_reducible first | exact HB.out | apply below_alloc | apply pw_below_drewN | apply below_drew1 | refine below_set ?_ GE197.out) | exact HB.out)) hb); have n2_ := Aside0.mk (hbox); have n3_ := Aside0.mk ((by rw [hg]; exact (below_size (by repeat (first | (with_reducible first | exact HB.out | apply below_alloc | apply pw_below_drewN | apply below_drew1 | refine below_set ?_ GE197.out) | exact HB.out))) : w.heap.size ≤ gb205)); have n4_ := Aside0.mk ((by rw [hg]; exact (below_size (by repeat (first | (with_reducible first | exact HB.out | apply below_alloc | apply pw_below_drewN | apply below_drew1 | refine below_set ?_ GE197.out) | exact HB.out))) : w.heap.size ≤ gb205)); have n5_ := Aside0.mk ((by rw [hg]; exact Nat.ne_of_lt (blk_lt (g := gb197) (o := .cells #[.int .i64 a0_0, .int .i64 a0_1, .int .i64 a0_2, .bool a0_3] 38 (0, 0)) (by (with_reducible repeat (first | refine blk_drewN ?_ _ | refine blk_drew ?_ | refine blk_alloc ?_ _)); exact BK197.out)) : gb197 ≠ gb205)); have n6_ := Aside0.mk ((by rw [hg]; exact Nat.ne_of_gt (blk_lt (g := gb197) (o := .cells #[.int .i64 a0_0, .int .i64 a0_1, .int .i64 a0_2, .bool a0_3] 38 (0, 0)) (by (with_reducible repeat (first | refine blk_drewN ?_ _ | refine blk_drew ?_ | refine blk_alloc ?_ _)); exact BK197.out)) : gb205 ≠ gb197)); clear BK197; clear HB; have BK197 := n0_; have HB := n1_; have BK205 := n2_; have GW205 := n3_; have GE205 := n4_; have NB197_205 := n5_; have NB205_197 := n6_; clear n0_ n1_ n2_ n3_ n4_ n5_ n6_; clear hb hbox hg; have hnb19 := NB205_197.out; have hnc19 := NB197_205.out; have hcz20_0 : w18.cell? ⟨gb205, 0, none⟩ = some (.int .i64 0) := (blk_cell BK205.out 0).trans rfl; have hcz20_1 : w18.cell? ⟨gb205, 1, none⟩ = some (.int .i64 0) := (blk_cell BK205.out 1).trans rfl; have hcz20_2 : w18.cell? ⟨gb205, 2, none⟩ = some (.int .i64 0) := (blk_cell BK205.out 2).trans rfl; have hcz20_3 : w18.cell? ⟨gb205, 3, none⟩ = some (.bool false) := (blk_cell BK205.out 3).trans rfl; have hfz20_0 := blk_frozen BK205.out 0; have hfz20_1 := blk_frozen BK205.out 1; have hfz20_2 := blk_frozen BK205.out 2; have hfz20_3 := blk_frozen BK205.out 3))
            (try simp only [Act.put, List.setIfInBounds_toArray, List.set_cons_zero, List.set_cons_succ])
            go_cut [41] (fun v41 wc => ∃ (kq : Nat) (x41_15 : Bool), v41 = .bool x41_15 ∧ Aside0 (kakugyolaw07_MoveLonger.j1 kq t199 t204 x41_15 a0_0 a0_1 a0_2 a0_3 t200 t201 t202 t203 = some r) ∧ Aside0 (kq ≤ kj5) ∧ Aside0 (wc.heap[gb197]? = some (.cells #[.int .i64 a0_0, .int .i64 a0_1, .int .i64 a0_2, .bool a0_3] 38 (0, 0))) ∧ Aside0 (wc.heap[gb205]? = some (.cells #[.int .i64 t200, .int .i64 t201, .int .i64 t202, .bool t203] 38 (0, 0))) ∧ Aside0 (Below w.heap.size w wc))
            case first =>
              have H := HC16.out
              clear HC16
              by_cases c21 : a0_2 = 0
              · rw [if_pos c21] at H
                have c21b0 : (a0_2 == 0) = true := beq_iff_eq.mpr c21
                have c21b1 : (a0_2 != 0) = false := bne_eq_false_iff_eq.mpr c21
                clear c21
                (first | rw [c21b0] | (simp only [i64_w, i32_w]; rw [c21b0]) | skip)
                by_cases c22 : a0_3 = true
                · subst c22
                  have H1 : (kakugyolaw07_MoveLonger.j1 kj5 t199 t204 false a0_0 a0_1 a0_2 true t200 t201 t202 t203) = some r := by rw [if_pos rfl] at H; exact H
                  clear H
                  have H := H1
                  clear H1
                  have H' := Aside0.mk H
                  clear H
                  have hnb23 := NB197_205.out
                  have hnc23 := NB205_197.out
                  have hcz24_0 : w18.cell? ⟨gb197, 0, none⟩ = some (.int .i64 a0_0) := (blk_cell BK197.out 0).trans rfl
                  have hcz24_1 : w18.cell? ⟨gb197, 1, none⟩ = some (.int .i64 a0_1) := (blk_cell BK197.out 1).trans rfl
                  have hcz24_2 : w18.cell? ⟨gb197, 2, none⟩ = some (.int .i64 a0_2) := (blk_cell BK197.out 2).trans rfl
                  have hcz24_3 : w18.cell? ⟨gb197, 3, none⟩ = some (.bool true) := (blk_cell BK197.out 3).trans rfl
                  have hfz24_0 := blk_frozen BK197.out 0
                  have hfz24_1 := blk_frozen BK197.out 1
                  have hfz24_2 := blk_frozen BK197.out 2
                  have hfz24_3 := blk_frozen BK197.out 3
                  go_wp2
                  go_meet
                  case rel => exact ⟨_, (false), (by first | rfl | (simp; done) | (simp [*]; done)), H', ⟨by have := HJ5.out; first | omega | exact Nat.le_refl _⟩, ⟨by (with_reducible repeat (first | refine blk_drewN ?_ _ | refine blk_drew ?_ | refine blk_alloc ?_ _)); refine blk_far ?_ NB197_205.out _; (with_reducible repeat (first | refine blk_drewN ?_ _ | refine blk_drew ?_ | refine blk_alloc ?_ _)); refine blk_far ?_ NB197_205.out _; (with_reducible repeat (first | refine blk_drewN ?_ _ | refine blk_drew ?_ | refine blk_alloc ?_ _)); refine blk_far ?_ NB197_205.out _; (with_reducible repeat (first | refine blk_drewN ?_ _ | refine blk_drew ?_ | refine blk_alloc ?_ _)); refine blk_far ?_ NB197_205.out _; (with_reducible repeat (first | refine blk_drewN ?_ _ | refine blk_drew ?_ | refine blk_alloc ?_ _)); exact BK197.out⟩, ⟨by (with_reducible repeat (first | refine blk_drewN ?_ _ | refine blk_drew ?_ | refine blk_alloc ?_ _)); refine blk_put (cs := #[.int .i64 t200, .int .i64 t201, .int .i64 t202, .bool false]) ?_ 3 _ (by first | rfl | (simp [*]; done)); (with_reducible repeat (first | refine blk_drewN ?_ _ | refine blk_drew ?_ | refine blk_alloc ?_ _)); refine blk_put (cs := #[.int .i64 t200, .int .i64 t201, .int .i64 0, .bool false]) ?_ 2 _ (by first | rfl | (simp [*]; done)); (with_reducible repeat (first | refine blk_drewN ?_ _ | refine blk_drew ?_ | refine blk_alloc ?_ _)); refine blk_put (cs := #[.int .i64 t200, .int .i64 0, .int .i64 0, .bool false]) ?_ 1 _ (by first | rfl | (simp [*]; done)); (with_reducible repeat (first | refine blk_drewN ?_ _ | refine blk_drew ?_ | refine blk_alloc ?_ _)); refine blk_put (cs := #[.int .i64 0, .int .i64 0, .int .i64 0, .bool false]) ?_ 0 _ (by first | rfl | (simp [*]; done)); (with_reducible repeat (first | refine blk_drewN ?_ _ | refine blk_drew ?_ | refine blk_alloc ?_ _)); exact BK205.out⟩, ⟨by repeat (first | (with_reducible first | exact HB.out | apply below_alloc | apply pw_below_drewN | apply below_drew1 | refine below_set ?_ GE197.out | refine below_set ?_ GE205.out) | exact HB.out)⟩⟩
                · replace c22 := Bool.eq_false_iff.mpr c22
                  subst c22
                  have H1 : (kakugyolaw07_MoveLonger.j1 kj5 t199 t204 (a1.toList == ([43] : List UInt8)) a0_0 a0_1 a0_2 false t200 t201 t202 t203) = some r := by rw [if_neg (show ¬ (false = true) by decide)] at H; exact H
                  clear H
                  have H := H1
                  clear H1
                  have H' := Aside0.mk H
                  clear H
                  have hnb25 := NB197_205.out
                  have hnc25 := NB205_197.out
                  have hcz26_0 : w18.cell? ⟨gb197, 0, none⟩ = some (.int .i64 a0_0) := (blk_cell BK197.out 0).trans rfl
                  have hcz26_1 : w18.cell? ⟨gb197, 1, none⟩ = some (.int .i64 a0_1) := (blk_cell BK197.out 1).trans rfl
                  have hcz26_2 : w18.cell? ⟨gb197, 2, none⟩ = some (.int .i64 a0_2) := (blk_cell BK197.out 2).trans rfl
                  have hcz26_3 : w18.cell? ⟨gb197, 3, none⟩ = some (.bool false) := (blk_cell BK197.out 3).trans rfl
                  have hfz26_0 := blk_frozen BK197.out 0
                  have hfz26_1 := blk_frozen BK197.out 1
                  have hfz26_2 := blk_frozen BK197.out 2
                  have hfz26_3 := blk_frozen BK197.out 3
                  go_wp2
                  go_meet
                  case rel => exact ⟨_, ((a1.toList == ([43] : List UInt8))), (by first | rfl | (simp; done) | (simp [*]; done)), H', ⟨by have := HJ5.out; first | omega | exact Nat.le_refl _⟩, ⟨by (with_reducible repeat (first | refine blk_drewN ?_ _ | refine blk_drew ?_ | refine blk_alloc ?_ _)); refine blk_far ?_ NB197_205.out _; (with_reducible repeat (first | refine blk_drewN ?_ _ | refine blk_drew ?_ | refine blk_alloc ?_ _)); refine blk_far ?_ NB197_205.out _; (with_reducible repeat (first | refine blk_drewN ?_ _ | refine blk_drew ?_ | refine blk_alloc ?_ _)); refine blk_far ?_ NB197_205.out _; (with_reducible repeat (first | refine blk_drewN ?_ _ | refine blk_drew ?_ | refine blk_alloc ?_ _)); refine blk_far ?_ NB197_205.out _; (with_reducible repeat (first | refine blk_drewN ?_ _ | refine blk_drew ?_ | refine blk_alloc ?_ _)); exact BK197.out⟩, ⟨by (with_reducible repeat (first | refine blk_drewN ?_ _ | refine blk_drew ?_ | refine blk_alloc ?_ _)); refine blk_put (cs := #[.int .i64 t200, .int .i64 t201, .int .i64 t202, .bool false]) ?_ 3 _ (by first | rfl | (simp [*]; done)); (with_reducible repeat (first | refine blk_drewN ?_ _ | refine blk_drew ?_ | refine blk_alloc ?_ _)); refine blk_put (cs := #[.int .i64 t200, .int .i64 t201, .int .i64 0, .bool false]) ?_ 2 _ (by first | rfl | (simp [*]; done)); (with_reducible repeat (first | refine blk_drewN ?_ _ | refine blk_drew ?_ | refine blk_alloc ?_ _)); refine blk_put (cs := #[.int .i64 t200, .int .i64 0, .int .i64 0, .bool false]) ?_ 1 _ (by first | rfl | (simp [*]; done)); (with_reducible repeat (first | refine blk_drewN ?_ _ | refine blk_drew ?_ | refine blk_alloc ?_ _)); refine blk_put (cs := #[.int .i64 0, .int .i64 0, .int .i64 0, .bool false]) ?_ 0 _ (by first | rfl | (simp [*]; done)); (with_reducible repeat (first | refine blk_drewN ?_ _ | refine blk_drew ?_ | refine blk_alloc ?_ _)); exact BK205.out⟩, ⟨by repeat (first | (with_reducible first | exact HB.out | apply below_alloc | apply pw_below_drewN | apply below_drew1 | refine below_set ?_ GE197.out | refine below_set ?_ GE205.out) | exact HB.out)⟩⟩
              · rw [if_neg c21] at H
                have c21b0 : (a0_2 == 0) = false := beq_eq_false_iff_ne.mpr c21
                have c21b1 : (a0_2 != 0) = true := bne_iff_ne.mpr c21
                (first | rw [c21b0] | (simp only [i64_w, i32_w]; rw [c21b0]) | skip)
                have H' := Aside0.mk H
                clear H
                have hnb27 := NB197_205.out
                have hnc27 := NB205_197.out
                have hcz28_0 : w18.cell? ⟨gb197, 0, none⟩ = some (.int .i64 a0_0) := (blk_cell BK197.out 0).trans rfl
                have hcz28_1 : w18.cell? ⟨gb197, 1, none⟩ = some (.int .i64 a0_1) := (blk_cell BK197.out 1).trans rfl
                have hcz28_2 : w18.cell? ⟨gb197, 2, none⟩ = some (.int .i64 a0_2) := (blk_cell BK197.out 2).trans rfl
                have hcz28_3 : w18.cell? ⟨gb197, 3, none⟩ = some (.bool a0_3) := (blk_cell BK197.out 3).trans rfl
                have hfz28_0 := blk_frozen BK197.out 0
                have hfz28_1 := blk_frozen BK197.out 1
                have hfz28_2 := blk_frozen BK197.out 2
                have hfz28_3 := blk_frozen BK197.out 3
                go_wp2
                go_meet
                case rel => exact ⟨_, (false), (by first | rfl | (simp; done) | (simp [*]; done)), H', ⟨by have := HJ5.out; first | omega | exact Nat.le_refl _⟩, ⟨by (with_reducible repeat (first | refine blk_drewN ?_ _ | refine blk_drew ?_ | refine blk_alloc ?_ _)); refine blk_far ?_ NB197_205.out _; (with_reducible repeat (first | refine blk_drewN ?_ _ | refine blk_drew ?_ | refine blk_alloc ?_ _)); refine blk_far ?_ NB197_205.out _; (with_reducible repeat (first | refine blk_drewN ?_ _ | refine blk_drew ?_ | refine blk_alloc ?_ _)); refine blk_far ?_ NB197_205.out _; (with_reducible repeat (first | refine blk_drewN ?_ _ | refine blk_drew ?_ | refine blk_alloc ?_ _)); refine blk_far ?_ NB197_205.out _; (with_reducible repeat (first | refine blk_drewN ?_ _ | refine blk_drew ?_ | refine blk_alloc ?_ _)); exact BK197.out⟩, ⟨by (with_reducible repeat (first | refine blk_drewN ?_ _ | refine blk_drew ?_ | refine blk_alloc ?_ _)); refine blk_put (cs := #[.int .i64 t200, .int .i64 t201, .int .i64 t202, .bool false]) ?_ 3 _ (by first | rfl | (simp [*]; done)); (with_reducible repeat (first | refine blk_drewN ?_ _ | refine blk_drew ?_ | refine blk_alloc ?_ _)); refine blk_put (cs := #[.int .i64 t200, .int .i64 t201, .int .i64 0, .bool false]) ?_ 2 _ (by first | rfl | (simp [*]; done)); (with_reducible repeat (first | refine blk_drewN ?_ _ | refine blk_drew ?_ | refine blk_alloc ?_ _)); refine blk_put (cs := #[.int .i64 t200, .int .i64 0, .int .i64 0, .bool false]) ?_ 1 _ (by first | rfl | (simp [*]; done)); (with_reducible repeat (first | refine blk_drewN ?_ _ | refine blk_drew ?_ | refine blk_alloc ?_ _)); refine blk_put (cs := #[.int .i64 0, .int .i64 0, .int .i64 0, .bool false]) ?_ 0 _ (by first | rfl | (simp [*]; done)); (with_reducible repeat (first | refine blk_drewN ?_ _ | refine blk_drew ?_ | refine blk_alloc ?_ _)); exact BK205.out⟩, ⟨by repeat (first | (with_reducible first | exact HB.out | apply below_alloc | apply pw_below_drewN | apply below_drew1 | refine below_set ?_ GE197.out | refine below_set ?_ GE205.out) | exact HB.out)⟩⟩
            case rest =>
              clear HC16
              try clear c1
              try clear c2
              try clear p2
              try clear c4
              try clear c8
              try clear c11
              try clear c11b0
              try clear c11b1
              try clear c12
              try clear c12b0
              try clear c12b1
              try clear c13
              try clear c14
              try clear c14b0
              try clear c14b1
              try clear c14b2
              try clear c19
              try clear c20
              try clear c21
              try clear c21b0
              try clear c21b1
              try clear c22
              try clear c23
              try clear c25
              try clear c27
              try clear hcz20_0
              try clear hcz20_1
              try clear hcz20_2
              try clear hcz20_3
              try clear hcz24_0
              try clear hcz24_1
              try clear hcz24_2
              try clear hcz24_3
              try clear hcz26_0
              try clear hcz26_1
              try clear hcz26_2
              try clear hcz26_3
              try clear hcz28_0
              try clear hcz28_1
              try clear hcz28_2
              try clear hcz28_3
              try clear hcz9_0
              try clear hcz9_1
              try clear hcz9_2
              try clear hcz9_3
              try clear hfz20_0
              try clear hfz20_1
              try clear hfz20_2
              try clear hfz20_3
              try clear hfz24_0
              try clear hfz24_1
              try clear hfz24_2
              try clear hfz24_3
              try clear hfz26_0
              try clear hfz26_1
              try clear hfz26_2
              try clear hfz26_3
              try clear hfz28_0
              try clear hfz28_1
              try clear hfz28_2
              try clear hfz28_3
              try clear hfz9_0
              try clear hfz9_1
              try clear hfz9_2
              try clear hfz9_3
              try clear p2
              obtain ⟨kq, x41_15, rfl, HA, HJ15, BK197, BK205, HB⟩ := hcut
              cases kq with
              | zero => exact absurd HA.out (by simp [kakugyolaw07_MoveLonger.j1])
              | succ kj15 =>
                have H := HA.out
                clear HA
                simp only [kakugyolaw07_MoveLonger.j1] at H
                by_cases c29 : x41_15 = true
                · subst c29
                  have H1 : (if t204 = 0 then (some (t200 == a0_0 && (t201 == a0_1 && (t202 == a0_2 && (t203))))) else (some false)) = some r := by rw [if_pos rfl] at H; exact H
                  clear H
                  have H := H1
                  clear H1
                  by_cases c30 : t204 = 0
                  · rw [if_pos c30] at H
                    have c30b0 : (t204 == 0) = true := beq_iff_eq.mpr c30
                    have c30b1 : (t204 != 0) = false := bne_eq_false_iff_eq.mpr c30
                    clear c30
                    obtain rfl := Option.some.inj H
                    have hnb31 := NB197_205.out
                    have hnc31 := NB205_197.out
                    have hcz32_0 : wc.cell? ⟨gb197, 0, none⟩ = some (.int .i64 a0_0) := (blk_cell BK197.out 0).trans rfl
                    have hcz32_1 : wc.cell? ⟨gb197, 1, none⟩ = some (.int .i64 a0_1) := (blk_cell BK197.out 1).trans rfl
                    have hcz32_2 : wc.cell? ⟨gb197, 2, none⟩ = some (.int .i64 a0_2) := (blk_cell BK197.out 2).trans rfl
                    have hcz32_3 : wc.cell? ⟨gb197, 3, none⟩ = some (.bool a0_3) := (blk_cell BK197.out 3).trans rfl
                    have hfz32_0 := blk_frozen BK197.out 0
                    have hfz32_1 := blk_frozen BK197.out 1
                    have hfz32_2 := blk_frozen BK197.out 2
                    have hfz32_3 := blk_frozen BK197.out 3
                    have hcz33_0 : wc.cell? ⟨gb205, 0, none⟩ = some (.int .i64 t200) := (blk_cell BK205.out 0).trans rfl
                    have hcz33_1 : wc.cell? ⟨gb205, 1, none⟩ = some (.int .i64 t201) := (blk_cell BK205.out 1).trans rfl
                    have hcz33_2 : wc.cell? ⟨gb205, 2, none⟩ = some (.int .i64 t202) := (blk_cell BK205.out 2).trans rfl
                    have hcz33_3 : wc.cell? ⟨gb205, 3, none⟩ = some (.bool t203) := (blk_cell BK205.out 3).trans rfl
                    have hfz33_0 := blk_frozen BK205.out 0
                    have hfz33_1 := blk_frozen BK205.out 1
                    have hfz33_2 := blk_frozen BK205.out 2
                    have hfz33_3 := blk_frozen BK205.out 3
                    go_wp2
                    go_ret
                    exact ⟨by first | rfl | (simp [errW_none, errW_some] <;> rfl) | (simp [*, errW_none, errW_some] <;> rfl) | (simp [*, errW_none, errW_some]; generalize ByteArray.toList _ = q_; cases q_ <;> rfl), by repeat (first | (with_reducible first | exact HB.out | apply below_alloc | apply pw_below_drewN | apply below_drew1 | refine below_set ?_ GE197.out | refine below_set ?_ GE205.out) | exact HB.out)⟩
                  · rw [if_neg c30] at H
                    have c30b0 : (t204 == 0) = false := beq_eq_false_iff_ne.mpr c30
                    have c30b1 : (t204 != 0) = true := bne_iff_ne.mpr c30
                    obtain rfl := Option.some.inj H
                    have hnb34 := NB197_205.out
                    have hnc34 := NB205_197.out
                    have hcz35_0 : wc.cell? ⟨gb197, 0, none⟩ = some (.int .i64 a0_0) := (blk_cell BK197.out 0).trans rfl
                    have hcz35_1 : wc.cell? ⟨gb197, 1, none⟩ = some (.int .i64 a0_1) := (blk_cell BK197.out 1).trans rfl
                    have hcz35_2 : wc.cell? ⟨gb197, 2, none⟩ = some (.int .i64 a0_2) := (blk_cell BK197.out 2).trans rfl
                    have hcz35_3 : wc.cell? ⟨gb197, 3, none⟩ = some (.bool a0_3) := (blk_cell BK197.out 3).trans rfl
                    have hfz35_0 := blk_frozen BK197.out 0
                    have hfz35_1 := blk_frozen BK197.out 1
                    have hfz35_2 := blk_frozen BK197.out 2
                    have hfz35_3 := blk_frozen BK197.out 3
                    go_wp2
                    go_ret
                    exact ⟨by first | rfl | (simp [errW_none, errW_some] <;> rfl) | (simp [*, errW_none, errW_some] <;> rfl) | (simp [*, errW_none, errW_some]; generalize ByteArray.toList _ = q_; cases q_ <;> rfl), by repeat (first | (with_reducible first | exact HB.out | apply below_alloc | apply pw_below_drewN | apply below_drew1 | refine below_set ?_ GE197.out | refine below_set ?_ GE205.out) | exact HB.out)⟩
                · replace c29 := Bool.eq_false_iff.mpr c29
                  subst c29
                  have H1 : (if t204 = 70 then (if (!(t200 == 0) || (!(t201 == 0) || (!(t202 == 0) || (t203)))) = true then (some false) else (if 0 ≤ 3 then (if 3 ≤ (t199.size : Int) then ((move_Parse.f (t199.extract 0 3)).bind fun bt206 => (some (bt206.2.2.2.2 == 70))) else (none)) else (none))) else (some false)) = some r := by rw [if_neg (show ¬ (false = true) by decide)] at H; exact H
                  clear H
                  have H := H1
                  clear H1
                  by_cases c36 : t204 = 70
                  · rw [if_pos c36] at H
                    have c36b0 : (t204 == 70) = true := beq_iff_eq.mpr c36
                    have c36b1 : (t204 != 70) = false := bne_eq_false_iff_eq.mpr c36
                    clear c36
                    by_cases c37 : (!(t200 == 0) || (!(t201 == 0) || (!(t202 == 0) || (t203)))) = true
                    · rw [if_pos c37] at H
                      have c37b0 : (!(t200 == 0) || (!(t201 == 0) || (!(t202 == 0) || (t203)))) = true := c37
                      clear c37
                      obtain rfl := Option.some.inj H
                      have hnb38 := NB205_197.out
                      have hnc38 := NB197_205.out
                      have hcz39_0 : wc.cell? ⟨gb205, 0, none⟩ = some (.int .i64 t200) := (blk_cell BK205.out 0).trans rfl
                      have hcz39_1 : wc.cell? ⟨gb205, 1, none⟩ = some (.int .i64 t201) := (blk_cell BK205.out 1).trans rfl
                      have hcz39_2 : wc.cell? ⟨gb205, 2, none⟩ = some (.int .i64 t202) := (blk_cell BK205.out 2).trans rfl
                      have hcz39_3 : wc.cell? ⟨gb205, 3, none⟩ = some (.bool t203) := (blk_cell BK205.out 3).trans rfl
                      have hfz39_0 := blk_frozen BK205.out 0
                      have hfz39_1 := blk_frozen BK205.out 1
                      have hfz39_2 := blk_frozen BK205.out 2
                      have hfz39_3 := blk_frozen BK205.out 3
                      go_wp2
                      go_ret
                      exact ⟨by first | rfl | (simp [errW_none, errW_some] <;> rfl) | (simp [*, errW_none, errW_some] <;> rfl) | (simp [*, errW_none, errW_some]; generalize ByteArray.toList _ = q_; cases q_ <;> rfl), by repeat (first | (with_reducible first | exact HB.out | apply below_alloc | apply pw_below_drewN | apply below_drew1 | refine below_set ?_ GE197.out | refine below_set ?_ GE205.out) | exact HB.out)⟩
                    · rw [if_neg c37] at H
                      have c37b0 : (!(t200 == 0) || (!(t201 == 0) || (!(t202 == 0) || (t203)))) = false := by simpa using c37
                      clear c37
                      by_cases c40 : 0 ≤ 3
                      · rw [if_pos c40] at H
                        have c40b0 := eq_true c40
                        have c40b1 : decide (0 ≤ 3) = true := decide_eq_true c40
                        clear c40
                        by_cases c41 : 3 ≤ (t199.size : Int)
                        · rw [if_pos c41] at H
                          have c41b0 := eq_true c41
                          have c41b1 : decide (3 ≤ (t199.size : Int)) = true := decide_eq_true c41
                          clear c41
                          replace H := Option.bind_eq_some_iff.mp H
                          obtain ⟨⟨t206, t207, t208, t209, t210⟩, A420, H⟩ := H
                          replace H : (some (t210 == 70)) = some r := H
                          have A42 := Aside0.mk A420
                          clear A420
                          obtain rfl := Option.some.inj H
                          have hnb43 := NB205_197.out
                          have hnc43 := NB197_205.out
                          have hcz44_0 : wc.cell? ⟨gb205, 0, none⟩ = some (.int .i64 t200) := (blk_cell BK205.out 0).trans rfl
                          have hcz44_1 : wc.cell? ⟨gb205, 1, none⟩ = some (.int .i64 t201) := (blk_cell BK205.out 1).trans rfl
                          have hcz44_2 : wc.cell? ⟨gb205, 2, none⟩ = some (.int .i64 t202) := (blk_cell BK205.out 2).trans rfl
                          have hcz44_3 : wc.cell? ⟨gb205, 3, none⟩ = some (.bool t203) := (blk_cell BK205.out 3).trans rfl
                          have hfz44_0 := blk_frozen BK205.out 0
                          have hfz44_1 := blk_frozen BK205.out 1
                          have hfz44_2 := blk_frozen BK205.out 2
                          have hfz44_3 := blk_frozen BK205.out 3
                          go_wp2_with (first | ((with_reducible refine gate_callee (f := 25) rfl ?_); refine goesL_ (some 60) rfl rfl Try.func25 (by kernel_rfl) rfl #[.string (t199.extract 0 3)] rfl (by (try simp only [List.map_toArray, List.map_cons, List.map_nil]); first | done | rfl | (simp only [List.length_drop, List.length_take]; rfl)) ?_; (with_reducible refine (move_Parse.calls (t199.extract 0 3) t206 t207 t208 t209 t210 _ A42.out).mono ?_); rintro e w45 ⟨rfl, hb⟩; refine ⟨_, rfl, ?_⟩; have n0_ := Aside0.mk (blk_below (g := gb197) (o := .cells #[.int .i64 a0_0, .int .i64 a0_1, .int .i64 a0_2, .bool a0_3] 38 (0, 0)) (by (with_reducible repeat (first | refine blk_drewN ?_ _ | refine blk_drew ?_ | refine blk_alloc ?_ _)); exact BK197.out) hb); have n1_ := Aside0.mk (blk_below (g := gb205) (o := .cells #[.int .i64 t200, .int .i64 t201, .int .i64 t202, .bool t203] 38 (0, 0)) (by (with_reducible repeat (first | refine blk_drewN ?_ _ | refine blk_drew ?_ | refine blk_alloc ?_ _)); exact BK205.out) hb); have n2_ := Aside0.mk (below_step (by repeat (first | (with_reducible first | exact HB.out | apply below_alloc | apply pw_below_drewN | apply below_drew1 | refine below_set ?_ GE197.out | refine below_set ?_ GE205.out) | exact HB.out)) hb); clear BK197; clear BK205; clear HB; have BK197 := n0_; have BK205 := n1_; have HB := n2_; clear n0_ n1_ n2_; (try clear hb); (try clear hb2); (try clear hk); (try clear hi)))
                          go_ret
                          exact ⟨by first | rfl | (simp [errW_none, errW_some] <;> rfl) | (simp [*, errW_none, errW_some] <;> rfl) | (simp [*, errW_none, errW_some]; generalize ByteArray.toList _ = q_; cases q_ <;> rfl), by repeat (first | (with_reducible first | exact HB.out | apply below_alloc | apply pw_below_drewN | apply below_drew1 | refine below_set ?_ GE197.out | refine below_set ?_ GE205.out) | exact HB.out)⟩
                        · rw [if_neg c41] at H
                          exact absurd H (by simp)
                      · rw [if_neg c40] at H
                        exact absurd H (by simp)
                  · rw [if_neg c36] at H
                    have c36b0 : (t204 == 70) = false := beq_eq_false_iff_ne.mpr c36
                    have c36b1 : (t204 != 70) = true := bne_iff_ne.mpr c36
                    obtain rfl := Option.some.inj H
                    go_wp2
                    go_ret
                    exact ⟨by first | rfl | (simp [errW_none, errW_some] <;> rfl) | (simp [*, errW_none, errW_some] <;> rfl) | (simp [*, errW_none, errW_some]; generalize ByteArray.toList _ = q_; cases q_ <;> rfl), by repeat (first | (with_reducible first | exact HB.out | apply below_alloc | apply pw_below_drewN | apply below_drew1 | refine below_set ?_ GE197.out | refine below_set ?_ GE205.out) | exact HB.out)⟩
          · rw [if_neg c14] at H
            exact absurd H (by simp)
  · replace c4 := Bool.eq_false_iff.mpr c4
    subst c4
    have H1 : (some false) = some r := by rw [if_neg (show ¬ (false = true) by decide)] at H; exact H
    clear H
    have H := H1
    clear H1
    obtain rfl := Option.some.inj H
    go_enter Try.func8, Try.ntmps8
    go_wp2_with (first | ((with_reducible refine gate_dst (N := 2) rfl ?_); (try (refine gate_guard (by rfl) ?_; dsimp only)); refine box_event ?hg (N := 2) ?hd (cs := #[.int .i64 a0_0, .int .i64 a0_1, .int .i64 a0_2, .bool a0_3]) (t := 38) ?hr ?_; (case hd => rfl); (case hg => rfl); (case hr => first | (go_simp; done) | (go_simp; rfl)); intro gb197 hg w46 hbox hb; have n0_ := Aside0.mk (below_step (by repeat (first | (with_reducible first | exact HB.out | apply below_alloc | apply pw_below_drewN | apply below_drew1) | exact HB.out)) hb); have n1_ := Aside0.mk (hbox); have n2_ := Aside0.mk ((by rw [hg]; exact (below_size (by repeat (first | (with_reducible first | exact HB.out | apply below_alloc | apply pw_below_drewN | apply below_drew1) | exact HB.out))) : w.heap.size ≤ gb197)); have n3_ := Aside0.mk ((by rw [hg]; exact (below_size (by repeat (first | (with_reducible first | exact HB.out | apply below_alloc | apply pw_below_drewN | apply below_drew1) | exact HB.out))) : w.heap.size ≤ gb197)); clear HB; have HB := n0_; have BK197 := n1_; have GW197 := n2_; have GE197 := n3_; clear n0_ n1_ n2_ n3_; clear hb hbox hg) | ((with_reducible refine gate_callee (f := 20) rfl ?_); refine goesL_ (some 8) rfl rfl Try.func20 (by kernel_rfl) rfl #[] rfl (by (try simp only [List.map_toArray, List.map_cons, List.map_nil]); first | done | rfl | (simp only [List.length_drop, List.length_take]; rfl)) ?_; (with_reducible refine (kakugyolaw07_names.calls k  false _ A3.out).mono ?_); rintro e w47 ⟨rfl, hb⟩; refine ⟨_, rfl, ?_⟩; have n0_ := Aside0.mk (blk_below (g := gb197) (o := .cells #[.int .i64 a0_0, .int .i64 a0_1, .int .i64 a0_2, .bool a0_3] 38 (0, 0)) (by (with_reducible repeat (first | refine blk_drewN ?_ _ | refine blk_drew ?_ | refine blk_alloc ?_ _)); exact BK197.out) hb); have n1_ := Aside0.mk (below_step (by repeat (first | (with_reducible first | exact HB.out | apply below_alloc | apply pw_below_drewN | apply below_drew1 | refine below_set ?_ GE197.out) | exact HB.out)) hb); clear BK197; clear HB; have BK197 := n0_; have HB := n1_; clear n0_ n1_; (try clear hb); (try clear hb2); (try clear hk); (try clear hi)))
    go_ret
    exact ⟨by first | rfl | (simp [errW_none, errW_some] <;> rfl) | (simp [*, errW_none, errW_some] <;> rfl) | (simp [*, errW_none, errW_some]; generalize ByteArray.toList _ = q_; cases q_ <;> rfl), by repeat (first | (with_reducible first | exact HB.out | apply below_alloc | apply pw_below_drewN | apply below_drew1 | refine below_set ?_ GE197.out) | exact HB.out)⟩

/-- THE ONE PURE STATEMENT of kakugyolaw07_MoveLonger: yours. -/
def kakugyolaw07_MoveLonger.Pure : Prop := ∀ (a0_0 : Int) (a0_1 : Int) (a0_2 : Int) (a0_3 : Bool) (a1 : ByteArray), (Lit.int .i64 a0_0).wf = true → (Lit.int .i64 a0_1).wf = true → (Lit.int .i64 a0_2).wf = true → a1.size ≤ 140737488351232 → ∃ k, kakugyolaw07_MoveLonger.f k a0_0 a0_1 a0_2 a0_3 a1 = some true
theorem kakugyolaw07_MoveLonger.walk (P : kakugyolaw07_MoveLonger.Pure) (a0_0 : Int) (a0_1 : Int) (a0_2 : Int) (a0_3 : Bool) (a1 : ByteArray) (w : World) (w0_0 : (Lit.int .i64 a0_0).wf = true) (w0_1 : (Lit.int .i64 a0_1).wf = true) (w0_2 : (Lit.int .i64 a0_2).wf = true) (w1 : a1.size ≤ 140737488351232) :
    Calls Try.prog 8 #[.agg #[.int .i64 a0_0, .int .i64 a0_1, .int .i64 a0_2, .bool a0_3], .string a1] w fun e w' => e = .returned (.bool true) ∧ Below w.heap.size w w' := by
  obtain ⟨k, h⟩ := P a0_0 a0_1 a0_2 a0_3 a1 w0_0 w0_1 w0_2 w1
  refine (kakugyolaw07_MoveLonger.calls k a0_0 a0_1 a0_2 a0_3 a1 true w h).mono ?_
  rintro e w' ⟨rfl, hd⟩
  exact ⟨rfl, hd⟩

end Go.Proofs.Ytmoeodcmfjnihab.Pa
