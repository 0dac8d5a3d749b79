-- Printed by a program of this session: the kit's printer, with contracts of this session's own among its functions.
import Derived.Test.YtmoeodcmfjnihabPax0
import Derived.Test.YtmoeodcmfjnihabPax1
import Derived.Test.YtmoeodcmfjnihabPax5
import Derived.Test.YtmoeodcmfjnihabPax8
namespace Go.Proofs.Ytmoeodcmfjnihab.Pa
open Go.RowKit Go.Proofs.YtmoeodcmfjnihabW.PrintWords Go.Proofs.YtmoeodcmfjnihabW.PrintLast Go.Proofs.YtmoeodcmfjnihabW.PrintMore
attribute [local go_sem] max2_int min2_int max_two min_two max_three min_three max_four min_four   -- for this text's walks alone
set_option linter.unusedVariables false
set_option linter.unusedSimpArgs false

attribute [local go_sem high] eqA38
/-! ### kakugyolaw07_MoveOrder: function 9 -/
def kakugyolaw07_MoveOrder.j0 : Nat → Int → Bool → Int → Int → Int → Bool → Int → Int → Int → Bool → Int → Int → Int → Bool → Option (Bool)
  | 0, _, _, _, _, _, _, _, _, _, _, _, _, _, _ => none
  | k + 1, x7, x50, x188000, x188001, x188002, x188003, x189000, x189001, x189002, x189003, x190000, x190001, x190002, x190003 => if x50 = true then (some false) else (if x7 ≤ 0 then ((move_Compare.f x189000 x189001 x189002 x189003 x190000 x190001 x190002 x190003).bind fun t195 => (if t195 ≤ 0 then ((move_Compare.f x188000 x188001 x188002 x188003 x190000 x190001 x190002 x190003).bind fun t196 => (some (decide (t196 ≤ 0)))) else (some true))) else (some true))
def kakugyolaw07_MoveOrder.f (k : Nat) (a0_0 : Int) (a0_1 : Int) (a0_2 : Int) (a0_3 : Bool) (a1_0 : Int) (a1_1 : Int) (a1_2 : Int) (a1_3 : Bool) (a2_0 : Int) (a2_1 : Int) (a2_2 : Int) (a2_3 : Bool) : Option (Bool) := (kakugyolaw07_names.f k).bind fun t190 => (if t190 = true then ((move_Compare.f a0_0 a0_1 a0_2 a0_3 a1_0 a1_1 a1_2 a1_3).bind fun t191 => ((kakugyoref07_Less.f a0_0 a0_1 a0_2 a0_3 a1_0 a1_1 a1_2 a1_3).bind fun t192 => (if ((decide (t191 < 0)) != t192) = true then (kakugyolaw07_MoveOrder.j0 k t191 true a0_0 a0_1 a0_2 a0_3 a1_0 a1_1 a1_2 a1_3 a2_0 a2_1 a2_2 a2_3) else ((kakugyoref07_Less.f a1_0 a1_1 a1_2 a1_3 a0_0 a0_1 a0_2 a0_3).bind fun t193 => (if ((decide (t191 > 0)) != t193) = true then (kakugyolaw07_MoveOrder.j0 k t191 true a0_0 a0_1 a0_2 a0_3 a1_0 a1_1 a1_2 a1_3 a2_0 a2_1 a2_2 a2_3) else (if ((t191 == 0) != (a0_0 == a1_0 && (a0_1 == a1_1 && (a0_2 == a1_2 && (a0_3 == a1_3))))) = true then (kakugyolaw07_MoveOrder.j0 k t191 true a0_0 a0_1 a0_2 a0_3 a1_0 a1_1 a1_2 a1_3 a2_0 a2_1 a2_2 a2_3) else (if t191 < (-1) then (kakugyolaw07_MoveOrder.j0 k t191 true a0_0 a0_1 a0_2 a0_3 a1_0 a1_1 a1_2 a1_3 a2_0 a2_1 a2_2 a2_3) else (if t191 > 1 then (kakugyolaw07_MoveOrder.j0 k t191 true a0_0 a0_1 a0_2 a0_3 a1_0 a1_1 a1_2 a1_3 a2_0 a2_1 a2_2 a2_3) else ((move_Compare.f a1_0 a1_1 a1_2 a1_3 a0_0 a0_1 a0_2 a0_3).bind fun t194 => (kakugyolaw07_MoveOrder.j0 k t191 (t194 != (wrap64 (-t191))) a0_0 a0_1 a0_2 a0_3 a1_0 a1_1 a1_2 a1_3 a2_0 a2_1 a2_2 a2_3)))))))))) else (some false))
theorem kakugyolaw07_MoveOrder.mono_l : ∀ k, (∀ y0 y1 y2 y3 y4 y5 y6 y7 y8 y9 y10 y11 y12 y13, LeO (kakugyolaw07_MoveOrder.j0 k y0 y1 y2 y3 y4 y5 y6 y7 y8 y9 y10 y11 y12 y13) (kakugyolaw07_MoveOrder.j0 (k + 1) y0 y1 y2 y3 y4 y5 y6 y7 y8 y9 y10 y11 y12 y13))
  | 0 => fun _ _ _ _ _ _ _ _ _ _ _ _ _ _ r h => by simp [kakugyolaw07_MoveOrder.j0] at h
  | k + 1 => by
    have ih0 := kakugyolaw07_MoveOrder.mono_l k
    · intro y0 y1 y2 y3 y4 y5 y6 y7 y8 y9 y10 y11 y12 y13
      unfold kakugyolaw07_MoveOrder.j0
      repeat' first
      | (with_reducible exact ih0 _ _ _ _ _ _ _ _ _ _ _ _ _ _)
      | (with_reducible exact kakugyolaw07_names.mono _)
      | (with_reducible exact LeO.refl _)
      | (with_reducible exact LeO.none _)
      | (with_reducible refine LeO.ite ?_ ?_)
      | (with_reducible refine LeO.bind ?_ (fun _ => ?_))
      | exact ih0 _ _ _ _ _ _ _ _ _ _ _ _ _ _
      | exact kakugyolaw07_names.mono _
      | exact LeO.none _
      | refine LeO.ite ?_ ?_
      | refine LeO.bind ?_ (fun _ => ?_)
theorem kakugyolaw07_MoveOrder.mono : ∀ a0 a1 a2 a3 a4 a5 a6 a7 a8 a9 a10 a11 k, LeO (kakugyolaw07_MoveOrder.f k a0 a1 a2 a3 a4 a5 a6 a7 a8 a9 a10 a11) (kakugyolaw07_MoveOrder.f (k + 1) a0 a1 a2 a3 a4 a5 a6 a7 a8 a9 a10 a11) := by
  intro a0 a1 a2 a3 a4 a5 a6 a7 a8 a9 a10 a11 k
  have ih0 := kakugyolaw07_MoveOrder.mono_l k
  unfold kakugyolaw07_MoveOrder.f
  repeat' first
      | (with_reducible exact ih0 _ _ _ _ _ _ _ _ _ _ _ _ _ _)
      | (with_reducible exact kakugyolaw07_names.mono _)
      | (with_reducible exact LeO.refl _)
      | (with_reducible exact LeO.none _)
      | (with_reducible refine LeO.ite ?_ ?_)
      | (with_reducible refine LeO.bind ?_ (fun _ => ?_))
      | exact ih0 _ _ _ _ _ _ _ _ _ _ _ _ _ _
      | exact kakugyolaw07_names.mono _
      | exact LeO.none _
      | refine LeO.ite ?_ ?_
      | refine LeO.bind ?_ (fun _ => ?_)
set_option maxHeartbeats 8000000 in
set_option maxRecDepth 100000 in
theorem kakugyolaw07_MoveOrder.calls (k : Nat) (a0_0 : Int) (a0_1 : Int) (a0_2 : Int) (a0_3 : Bool) (a1_0 : Int) (a1_1 : Int) (a1_2 : Int) (a1_3 : Bool) (a2_0 : Int) (a2_1 : Int) (a2_2 : Int) (a2_3 : Bool) (r : Bool) (w : World) (h : kakugyolaw07_MoveOrder.f k a0_0 a0_1 a0_2 a0_3 a1_0 a1_1 a1_2 a1_3 a2_0 a2_1 a2_2 a2_3 = some r) :
    Calls Try.prog 9 #[.agg #[.int .i64 a0_0, .int .i64 a0_1, .int .i64 a0_2, .bool a0_3], .agg #[.int .i64 a1_0, .int .i64 a1_1, .int .i64 a1_2, .bool a1_3], .agg #[.int .i64 a2_0, .int .i64 a2_1, .int .i64 a2_2, .bool a2_3]] w fun e w' => e = .returned (.bool r) ∧ Below w.heap.size w w' := by
  have hu38 := Try.underlying38
  have HB := Aside0.mk (Below.refl w.heap.size w)
  have H : ((kakugyolaw07_names.f k).bind fun t190 => (if t190 = true then ((move_Compare.f a0_0 a0_1 a0_2 a0_3 a1_0 a1_1 a1_2 a1_3).bind fun t191 => ((kakugyoref07_Less.f a0_0 a0_1 a0_2 a0_3 a1_0 a1_1 a1_2 a1_3).bind fun t192 => (if ((decide (t191 < 0)) != t192) = true then (kakugyolaw07_MoveOrder.j0 k t191 true a0_0 a0_1 a0_2 a0_3 a1_0 a1_1 a1_2 a1_3 a2_0 a2_1 a2_2 a2_3) else ((kakugyoref07_Less.f a1_0 a1_1 a1_2 a1_3 a0_0 a0_1 a0_2 a0_3).bind fun t193 => (if ((decide (t191 > 0)) != t193) = true then (kakugyolaw07_MoveOrder.j0 k t191 true a0_0 a0_1 a0_2 a0_3 a1_0 a1_1 a1_2 a1_3 a2_0 a2_1 a2_2 a2_3) else (if ((t191 == 0) != (a0_0 == a1_0 && (a0_1 == a1_1 && (a0_2 == a1_2 && (a0_3 == a1_3))))) = true then (kakugyolaw07_MoveOrder.j0 k t191 true a0_0 a0_1 a0_2 a0_3 a1_0 a1_1 a1_2 a1_3 a2_0 a2_1 a2_2 a2_3) else (if t191 < (-1) then (kakugyolaw07_MoveOrder.j0 k t191 true a0_0 a0_1 a0_2 a0_3 a1_0 a1_1 a1_2 a1_3 a2_0 a2_1 a2_2 a2_3) else (if t191 > 1 then (kakugyolaw07_MoveOrder.j0 k t191 true a0_0 a0_1 a0_2 a0_3 a1_0 a1_1 a1_2 a1_3 a2_0 a2_1 a2_2 a2_3) else ((move_Compare.f a1_0 a1_1 a1_2 a1_3 a0_0 a0_1 a0_2 a0_3).bind fun t194 => (kakugyolaw07_MoveOrder.j0 k t191 (t194 != (wrap64 (-t191))) a0_0 a0_1 a0_2 a0_3 a1_0 a1_1 a1_2 a1_3 a2_0 a2_1 a2_2 a2_3)))))))))) else (some false))) = some r := h
  clear h
  replace H := Option.bind_eq_some_iff.mp H
  obtain ⟨t190, A40, H⟩ := H
  replace H : (if t190 = true then ((move_Compare.f a0_0 a0_1 a0_2 a0_3 a1_0 a1_1 a1_2 a1_3).bind fun t191 => ((kakugyoref07_Less.f a0_0 a0_1 a0_2 a0_3 a1_0 a1_1 a1_2 a1_3).bind fun t192 => (if ((decide (t191 < 0)) != t192) = true then (kakugyolaw07_MoveOrder.j0 k t191 true a0_0 a0_1 a0_2 a0_3 a1_0 a1_1 a1_2 a1_3 a2_0 a2_1 a2_2 a2_3) else ((kakugyoref07_Less.f a1_0 a1_1 a1_2 a1_3 a0_0 a0_1 a0_2 a0_3).bind fun t193 => (if ((decide (t191 > 0)) != t193) = true then (kakugyolaw07_MoveOrder.j0 k t191 true a0_0 a0_1 a0_2 a0_3 a1_0 a1_1 a1_2 a1_3 a2_0 a2_1 a2_2 a2_3) else (if ((t191 == 0) != (a0_0 == a1_0 && (a0_1 == a1_1 && (a0_2 == a1_2 && (a0_3 == a1_3))))) = true then (kakugyolaw07_MoveOrder.j0 k t191 true a0_0 a0_1 a0_2 a0_3 a1_0 a1_1 a1_2 a1_3 a2_0 a2_1 a2_2 a2_3) else (if t191 < (-1) then (kakugyolaw07_MoveOrder.j0 k t191 true a0_0 a0_1 a0_2 a0_3 a1_0 a1_1 a1_2 a1_3 a2_0 a2_1 a2_2 a2_3) else (if t191 > 1 then (kakugyolaw07_MoveOrder.j0 k t191 true a0_0 a0_1 a0_2 a0_3 a1_0 a1_1 a1_2 a1_3 a2_0 a2_1 a2_2 a2_3) else ((move_Compare.f a1_0 a1_1 a1_2 a1_3 a0_0 a0_1 a0_2 a0_3).bind fun t194 => (kakugyolaw07_MoveOrder.j0 k t191 (t194 != (wrap64 (-t191))) a0_0 a0_1 a0_2 a0_3 a1_0 a1_1 a1_2 a1_3 a2_0 a2_1 a2_2 a2_3)))))))))) else (some false)) = some r := H
  have A4 := Aside0.mk A40
  clear A40
  by_cases c5 : t190 = true
  · subst c5
    have H1 : ((move_Compare.f a0_0 a0_1 a0_2 a0_3 a1_0 a1_1 a1_2 a1_3).bind fun t191 => ((kakugyoref07_Less.f a0_0 a0_1 a0_2 a0_3 a1_0 a1_1 a1_2 a1_3).bind fun t192 => (if ((decide (t191 < 0)) != t192) = true then (kakugyolaw07_MoveOrder.j0 k t191 true a0_0 a0_1 a0_2 a0_3 a1_0 a1_1 a1_2 a1_3 a2_0 a2_1 a2_2 a2_3) else ((kakugyoref07_Less.f a1_0 a1_1 a1_2 a1_3 a0_0 a0_1 a0_2 a0_3).bind fun t193 => (if ((decide (t191 > 0)) != t193) = true then (kakugyolaw07_MoveOrder.j0 k t191 true a0_0 a0_1 a0_2 a0_3 a1_0 a1_1 a1_2 a1_3 a2_0 a2_1 a2_2 a2_3) else (if ((t191 == 0) != (a0_0 == a1_0 && (a0_1 == a1_1 && (a0_2 == a1_2 && (a0_3 == a1_3))))) = true then (kakugyolaw07_MoveOrder.j0 k t191 true a0_0 a0_1 a0_2 a0_3 a1_0 a1_1 a1_2 a1_3 a2_0 a2_1 a2_2 a2_3) else (if t191 < (-1) then (kakugyolaw07_MoveOrder.j0 k t191 true a0_0 a0_1 a0_2 a0_3 a1_0 a1_1 a1_2 a1_3 a2_0 a2_1 a2_2 a2_3) else (if t191 > 1 then (kakugyolaw07_MoveOrder.j0 k t191 true a0_0 a0_1 a0_2 a0_3 a1_0 a1_1 a1_2 a1_3 a2_0 a2_1 a2_2 a2_3) else ((move_Compare.f a1_0 a1_1 a1_2 a1_3 a0_0 a0_1 a0_2 a0_3).bind fun t194 => (kakugyolaw07_MoveOrder.j0 k t191 (t194 != (wrap64 (-t191))) a0_0 a0_1 a0_2 a0_3 a1_0 a1_1 a1_2 a1_3 a2_0 a2_1 a2_2 a2_3)))))))))) = some r := by rw [if_pos rfl] at H; exact H
    clear H
    have H := H1
    clear H1
    replace H := Option.bind_eq_some_iff.mp H
    obtain ⟨t191, A60, H⟩ := H
    replace H : ((kakugyoref07_Less.f a0_0 a0_1 a0_2 a0_3 a1_0 a1_1 a1_2 a1_3).bind fun t192 => (if ((decide (t191 < 0)) != t192) = true then (kakugyolaw07_MoveOrder.j0 k t191 true a0_0 a0_1 a0_2 a0_3 a1_0 a1_1 a1_2 a1_3 a2_0 a2_1 a2_2 a2_3) else ((kakugyoref07_Less.f a1_0 a1_1 a1_2 a1_3 a0_0 a0_1 a0_2 a0_3).bind fun t193 => (if ((decide (t191 > 0)) != t193) = true then (kakugyolaw07_MoveOrder.j0 k t191 true a0_0 a0_1 a0_2 a0_3 a1_0 a1_1 a1_2 a1_3 a2_0 a2_1 a2_2 a2_3) else (if ((t191 == 0) != (a0_0 == a1_0 && (a0_1 == a1_1 && (a0_2 == a1_2 && (a0_3 == a1_3))))) = true then (kakugyolaw07_MoveOrder.j0 k t191 true a0_0 a0_1 a0_2 a0_3 a1_0 a1_1 a1_2 a1_3 a2_0 a2_1 a2_2 a2_3) else (if t191 < (-1) then (kakugyolaw07_MoveOrder.j0 k t191 true a0_0 a0_1 a0_2 a0_3 a1_0 a1_1 a1_2 a1_3 a2_0 a2_1 a2_2 a2_3) else (if t191 > 1 then (kakugyolaw07_MoveOrder.j0 k t191 true a0_0 a0_1 a0_2 a0_3 a1_0 a1_1 a1_2 a1_3 a2_0 a2_1 a2_2 a2_3) else ((move_Compare.f a1_0 a1_1 a1_2 a1_3 a0_0 a0_1 a0_2 a0_3).bind fun t194 => (kakugyolaw07_MoveOrder.j0 k t191 (t194 != (wrap64 (-t191))) a0_0 a0_1 a0_2 a0_3 a1_0 a1_1 a1_2 a1_3 a2_0 a2_1 a2_2 a2_3))))))))) = some r := H
    have A6 := Aside0.mk A60
    clear A60
    have HC7 := Aside0.mk H
    clear H
    go_enter Try.func9, Try.ntmps9
    go_upto_region 4 with (first | ((with_reducible refine gate_dst (N := 3) rfl ?_); refine box_event ?hg (N := 3) ?hd (cs := #[.int .i64 a0_0, .int .i64 a0_1, .int .i64 a0_2, .bool a0_3]) (t := 38) ?hr ?_; (case hd => rfl); (case hg => rfl); (case hr => first | (go_simp; done) | (go_simp; rfl)); intro gb187 hg w8 hbox hb; have n0_ := Aside0.mk (below_step (by repeat (first | (with_reducible first | exact HB.out | apply below_alloc | apply pw_below_drewN | apply below_drew1) | exact HB.out)) hb); have n1_ := Aside0.mk (hbox); have n2_ := Aside0.mk ((by rw [hg]; exact (below_size (by repeat (first | (with_reducible first | exact HB.out | apply below_alloc | apply pw_below_drewN | apply below_drew1) | exact HB.out))) : w.heap.size ≤ gb187)); have n3_ := Aside0.mk ((by rw [hg]; exact (below_size (by repeat (first | (with_reducible first | exact HB.out | apply below_alloc | apply pw_below_drewN | apply below_drew1) | exact HB.out))) : w.heap.size ≤ gb187)); clear HB; have HB := n0_; have BK187 := n1_; have GW187 := n2_; have GE187 := n3_; clear n0_ n1_ n2_ n3_; clear hb hbox hg) | ((with_reducible refine gate_dst (N := 4) rfl ?_); refine box_event ?hg (N := 4) ?hd (cs := #[.int .i64 a1_0, .int .i64 a1_1, .int .i64 a1_2, .bool a1_3]) (t := 38) ?hr ?_; (case hd => rfl); (case hg => rfl); (case hr => first | (go_simp; done) | (go_simp; rfl)); intro gb188 hg w9 hbox hb; have n0_ := Aside0.mk (blk_below (g := gb187) (o := .cells #[.int .i64 a0_0, .int .i64 a0_1, .int .i64 a0_2, .bool a0_3] 38 (0, 0)) (by (with_reducible repeat (first | refine blk_drewN ?_ _ | refine blk_drew ?_ | refine blk_alloc ?_ _)); exact BK187.out) hb); have n1_ := Aside0.mk (below_step (by repeat (first | (with_reducible first | exact HB.out | apply below_alloc | apply pw_below_drewN | apply below_drew1 | refine below_set ?_ GE187.out) | exact HB.out)) hb); have n2_ := Aside0.mk (hbox); have n3_ := Aside0.mk ((by rw [hg]; exact (below_size (by repeat (first | (with_reducible first | exact HB.out | apply below_alloc | apply pw_below_drewN | apply below_drew1 | refine below_set ?_ GE187.out) | exact HB.out))) : w.heap.size ≤ gb188)); have n4_ := Aside0.mk ((by rw [hg]; exact (below_size (by repeat (first | (with_reducible first | exact HB.out | apply below_alloc | apply pw_below_drewN | apply below_drew1 | refine below_set ?_ GE187.out) | exact HB.out))) : w.heap.size ≤ gb188)); have n5_ := Aside0.mk ((by rw [hg]; exact Nat.ne_of_lt (blk_lt (g := gb187) (o := .cells #[.int .i64 a0_0, .int .i64 a0_1, .int .i64 a0_2, .bool a0_3] 38 (0, 0)) (by (with_reducible repeat (first | refine blk_drewN ?_ _ | refine blk_drew ?_ | refine blk_alloc ?_ _)); exact BK187.out)) : gb187 ≠ gb188)); have n6_ := Aside0.mk ((by rw [hg]; exact Nat.ne_of_gt (blk_lt (g := gb187) (o := .cells #[.int .i64 a0_0, .int .i64 a0_1, .int .i64 a0_2, .bool a0_3] 38 (0, 0)) (by (with_reducible repeat (first | refine blk_drewN ?_ _ | refine blk_drew ?_ | refine blk_alloc ?_ _)); exact BK187.out)) : gb188 ≠ gb187)); clear BK187; clear HB; have BK187 := n0_; have HB := n1_; have BK188 := n2_; have GW188 := n3_; have GE188 := n4_; have NB187_188 := n5_; have NB188_187 := n6_; clear n0_ n1_ n2_ n3_ n4_ n5_ n6_; clear hb hbox hg) | ((with_reducible refine gate_dst (N := 5) rfl ?_); refine box_event ?hg (N := 5) ?hd (cs := #[.int .i64 a2_0, .int .i64 a2_1, .int .i64 a2_2, .bool a2_3]) (t := 38) ?hr ?_; (case hd => rfl); (case hg => rfl); (case hr => first | (go_simp; done) | (go_simp; rfl)); intro gb189 hg w10 hbox hb; have n0_ := Aside0.mk (blk_below (g := gb187) (o := .cells #[.int .i64 a0_0, .int .i64 a0_1, .int .i64 a0_2, .bool a0_3] 38 (0, 0)) (by (with_reducible repeat (first | refine blk_drewN ?_ _ | refine blk_drew ?_ | refine blk_alloc ?_ _)); exact BK187.out) hb); have n1_ := Aside0.mk (blk_below (g := gb188) (o := .cells #[.int .i64 a1_0, .int .i64 a1_1, .int .i64 a1_2, .bool a1_3] 38 (0, 0)) (by (with_reducible repeat (first | refine blk_drewN ?_ _ | refine blk_drew ?_ | refine blk_alloc ?_ _)); exact BK188.out) hb); have n2_ := Aside0.mk (below_step (by repeat (first | (with_reducible first | exact HB.out | apply below_alloc | apply pw_below_drewN | apply below_drew1 | refine below_set ?_ GE187.out | refine below_set ?_ GE188.out) | exact HB.out)) hb); have n3_ := Aside0.mk (hbox); have n4_ := Aside0.mk ((by rw [hg]; exact (below_size (by repeat (first | (with_reducible first | exact HB.out | apply below_alloc | apply pw_below_drewN | apply below_drew1 | refine below_set ?_ GE187.out | refine below_set ?_ GE188.out) | exact HB.out))) : w.heap.size ≤ gb189)); have n5_ := Aside0.mk ((by rw [hg]; exact (below_size (by repeat (first | (with_reducible first | exact HB.out | apply below_alloc | apply pw_below_drewN | apply below_drew1 | refine below_set ?_ GE187.out | refine below_set ?_ GE188.out) | exact HB.out))) : w.heap.size ≤ gb189)); have n6_ := Aside0.mk ((by rw [hg]; exact Nat.ne_of_lt (blk_lt (g := gb187) (o := .cells #[.int .i64 a0_0, .int .i64 a0_1, .int .i64 a0_2, .bool a0_3] 38 (0, 0)) (by (with_reducible repeat (first | refine blk_drewN ?_ _ | refine blk_drew ?_ | refine blk_alloc ?_ _)); exact BK187.out)) : gb187 ≠ gb189)); have n7_ := Aside0.mk ((by rw [hg]; exact Nat.ne_of_gt (blk_lt (g := gb187) (o := .cells #[.int .i64 a0_0, .int .i64 a0_1, .int .i64 a0_2, .bool a0_3] 38 (0, 0)) (by (with_reducible repeat (first | refine blk_drewN ?_ _ | refine blk_drew ?_ | refine blk_alloc ?_ _)); exact BK187.out)) : gb189 ≠ gb187)); have n8_ := Aside0.mk ((by rw [hg]; exact Nat.ne_of_lt (blk_lt (g := gb188) (o := .cells #[.int .i64 a1_0, .int .i64 a1_1, .int .i64 a1_2, .bool a1_3] 38 (0, 0)) (by (with_reducible repeat (first | refine blk_drewN ?_ _ | refine blk_drew ?_ | refine blk_alloc ?_ _)); exact BK188.out)) : gb188 ≠ gb189)); have n9_ := Aside0.mk ((by rw [hg]; exact Nat.ne_of_gt (blk_lt (g := gb188) (o := .cells #[.int .i64 a1_0, .int .i64 a1_1, .int .i64 a1_2, .bool a1_3] 38 (0, 0)) (by (with_reducible repeat (first | refine blk_drewN ?_ _ | refine blk_drew ?_ | refine blk_alloc ?_ _)); exact BK188.out)) : gb189 ≠ gb188)); clear BK187; clear BK188; clear HB; have BK187 := n0_; have BK188 := n1_; have HB := n2_; have BK189 := n3_; have GW189 := n4_; have GE189 := n5_; have NB187_189 := n6_; have NB189_187 := n7_; have NB188_189 := n8_; have NB189_188 := n9_; clear n0_ n1_ n2_ n3_ n4_ n5_ n6_ n7_ n8_ n9_; clear hb hbox hg) | ((with_reducible refine gate_callee (f := 20) rfl ?_); refine goesL_ (some 8) rfl rfl Try.func20 (by kernel_rfl) rfl #[] rfl (by (try simp only [List.map_toArray, List.map_cons, List.map_nil]); first | done | rfl | (simp only [List.length_drop, List.length_take]; rfl)) ?_; (with_reducible refine (kakugyolaw07_names.calls k  true _ A4.out).mono ?_); rintro e w11 ⟨rfl, hb⟩; refine ⟨_, rfl, ?_⟩; have n0_ := Aside0.mk (blk_below (g := gb187) (o := .cells #[.int .i64 a0_0, .int .i64 a0_1, .int .i64 a0_2, .bool a0_3] 38 (0, 0)) (by (with_reducible repeat (first | refine blk_drewN ?_ _ | refine blk_drew ?_ | refine blk_alloc ?_ _)); exact BK187.out) hb); have n1_ := Aside0.mk (blk_below (g := gb188) (o := .cells #[.int .i64 a1_0, .int .i64 a1_1, .int .i64 a1_2, .bool a1_3] 38 (0, 0)) (by (with_reducible repeat (first | refine blk_drewN ?_ _ | refine blk_drew ?_ | refine blk_alloc ?_ _)); exact BK188.out) hb); have n2_ := Aside0.mk (blk_below (g := gb189) (o := .cells #[.int .i64 a2_0, .int .i64 a2_1, .int .i64 a2_2, .bool a2_3] 38 (0, 0)) (by (with_reducible repeat (first | refine blk_drewN ?_ _ | refine blk_drew ?_ | refine blk_alloc ?_ _)); exact BK189.out) hb); have n3_ := Aside0.mk (below_step (by repeat (first | (with_reducible first | exact HB.out | apply below_alloc | apply pw_below_drewN | apply below_drew1 | refine below_set ?_ GE187.out | refine below_set ?_ GE188.out | refine below_set ?_ GE189.out) | exact HB.out)) hb); clear BK187; clear BK188; clear BK189; clear HB; have BK187 := n0_; have BK188 := n1_; have BK189 := n2_; have HB := n3_; clear n0_ n1_ n2_ n3_; (try clear hb); (try clear hb2); (try clear hk); (try clear hi); have hnb12 := NB187_188.out; have hnc12 := NB188_187.out; have hnb13 := NB187_189.out; have hnc13 := NB189_187.out; have hcz14_0 : w11.cell? ⟨gb187, 0, none⟩ = some (.int .i64 a0_0) := (blk_cell BK187.out 0).trans rfl; have hcz14_1 : w11.cell? ⟨gb187, 1, none⟩ = some (.int .i64 a0_1) := (blk_cell BK187.out 1).trans rfl; have hcz14_2 : w11.cell? ⟨gb187, 2, none⟩ = some (.int .i64 a0_2) := (blk_cell BK187.out 2).trans rfl; have hcz14_3 : w11.cell? ⟨gb187, 3, none⟩ = some (.bool a0_3) := (blk_cell BK187.out 3).trans rfl; have hfz14_0 := blk_frozen BK187.out 0; have hfz14_1 := blk_frozen BK187.out 1; have hfz14_2 := blk_frozen BK187.out 2; have hfz14_3 := blk_frozen BK187.out 3; have hnb15 := NB188_189.out; have hnc15 := NB189_188.out; have hcz16_0 : w11.cell? ⟨gb188, 0, none⟩ = some (.int .i64 a1_0) := (blk_cell BK188.out 0).trans rfl; have hcz16_1 : w11.cell? ⟨gb188, 1, none⟩ = some (.int .i64 a1_1) := (blk_cell BK188.out 1).trans rfl; have hcz16_2 : w11.cell? ⟨gb188, 2, none⟩ = some (.int .i64 a1_2) := (blk_cell BK188.out 2).trans rfl; have hcz16_3 : w11.cell? ⟨gb188, 3, none⟩ = some (.bool a1_3) := (blk_cell BK188.out 3).trans rfl; have hfz16_0 := blk_frozen BK188.out 0; have hfz16_1 := blk_frozen BK188.out 1; have hfz16_2 := blk_frozen BK188.out 2; have hfz16_3 := blk_frozen BK188.out 3) | ((with_reducible refine gate_callee (f := 29) rfl ?_); refine goesL_ (some 12) rfl rfl Try.func29 (by kernel_rfl) rfl #[.agg #[.int .i64 a0_0, .int .i64 a0_1, .int .i64 a0_2, .bool a0_3], .agg #[.int .i64 a1_0, .int .i64 a1_1, .int .i64 a1_2, .bool a1_3]] rfl (by (try simp only [List.map_toArray, List.map_cons, List.map_nil]); first | done | rfl | (simp only [List.length_drop, List.length_take]; rfl)) ?_; (with_reducible refine (move_Compare.calls a0_0 a0_1 a0_2 a0_3 a1_0 a1_1 a1_2 a1_3 t191 _ A6.out).mono ?_); rintro e w17 ⟨rfl, hb⟩; refine ⟨_, rfl, ?_⟩; have n0_ := Aside0.mk (blk_below (g := gb187) (o := .cells #[.int .i64 a0_0, .int .i64 a0_1, .int .i64 a0_2, .bool a0_3] 38 (0, 0)) (by (with_reducible repeat (first | refine blk_drewN ?_ _ | refine blk_drew ?_ | refine blk_alloc ?_ _)); exact BK187.out) hb); have n1_ := Aside0.mk (blk_below (g := gb188) (o := .cells #[.int .i64 a1_0, .int .i64 a1_1, .int .i64 a1_2, .bool a1_3] 38 (0, 0)) (by (with_reducible repeat (first | refine blk_drewN ?_ _ | refine blk_drew ?_ | refine blk_alloc ?_ _)); exact BK188.out) hb); have n2_ := Aside0.mk (blk_below (g := gb189) (o := .cells #[.int .i64 a2_0, .int .i64 a2_1, .int .i64 a2_2, .bool a2_3] 38 (0, 0)) (by (with_reducible repeat (first | refine blk_drewN ?_ _ | refine blk_drew ?_ | refine blk_alloc ?_ _)); exact BK189.out) hb); have n3_ := Aside0.mk (below_step (by repeat (first | (with_reducible first | exact HB.out | apply below_alloc | apply pw_below_drewN | apply below_drew1 | refine below_set ?_ GE187.out | refine below_set ?_ GE188.out | refine below_set ?_ GE189.out) | exact HB.out)) hb); clear BK187; clear BK188; clear BK189; clear HB; have BK187 := n0_; have BK188 := n1_; have BK189 := n2_; have HB := n3_; clear n0_ n1_ n2_ n3_; (try clear hb); (try clear hb2); (try clear hk); (try clear hi)))
    (try simp only [Act.put, List.setIfInBounds_toArray, List.set_cons_zero, List.set_cons_succ])
    go_cut [50] (fun v50 wc => ∃ (kq : Nat) (x50_6 : Bool), v50 = .bool x50_6 ∧ Aside0 (kakugyolaw07_MoveOrder.j0 kq t191 x50_6 a0_0 a0_1 a0_2 a0_3 a1_0 a1_1 a1_2 a1_3 a2_0 a2_1 a2_2 a2_3 = some r) ∧ Aside0 (kq ≤ k) ∧ Aside0 (wc.heap[gb187]? = some (.cells #[.int .i64 a0_0, .int .i64 a0_1, .int .i64 a0_2, .bool a0_3] 38 (0, 0))) ∧ Aside0 (wc.heap[gb188]? = some (.cells #[.int .i64 a1_0, .int .i64 a1_1, .int .i64 a1_2, .bool a1_3] 38 (0, 0))) ∧ Aside0 (wc.heap[gb189]? = some (.cells #[.int .i64 a2_0, .int .i64 a2_1, .int .i64 a2_2, .bool a2_3] 38 (0, 0))) ∧ Aside0 (Below w.heap.size w wc))
    case first =>
      have H := HC7.out
      clear HC7
      replace H := Option.bind_eq_some_iff.mp H
      obtain ⟨t192, A180, H⟩ := H
      replace H : (if ((decide (t191 < 0)) != t192) = true then (kakugyolaw07_MoveOrder.j0 k t191 true a0_0 a0_1 a0_2 a0_3 a1_0 a1_1 a1_2 a1_3 a2_0 a2_1 a2_2 a2_3) else ((kakugyoref07_Less.f a1_0 a1_1 a1_2 a1_3 a0_0 a0_1 a0_2 a0_3).bind fun t193 => (if ((decide (t191 > 0)) != t193) = true then (kakugyolaw07_MoveOrder.j0 k t191 true a0_0 a0_1 a0_2 a0_3 a1_0 a1_1 a1_2 a1_3 a2_0 a2_1 a2_2 a2_3) else (if ((t191 == 0) != (a0_0 == a1_0 && (a0_1 == a1_1 && (a0_2 == a1_2 && (a0_3 == a1_3))))) = true then (kakugyolaw07_MoveOrder.j0 k t191 true a0_0 a0_1 a0_2 a0_3 a1_0 a1_1 a1_2 a1_3 a2_0 a2_1 a2_2 a2_3) else (if t191 < (-1) then (kakugyolaw07_MoveOrder.j0 k t191 true a0_0 a0_1 a0_2 a0_3 a1_0 a1_1 a1_2 a1_3 a2_0 a2_1 a2_2 a2_3) else (if t191 > 1 then (kakugyolaw07_MoveOrder.j0 k t191 true a0_0 a0_1 a0_2 a0_3 a1_0 a1_1 a1_2 a1_3 a2_0 a2_1 a2_2 a2_3) else ((move_Compare.f a1_0 a1_1 a1_2 a1_3 a0_0 a0_1 a0_2 a0_3).bind fun t194 => (kakugyolaw07_MoveOrder.j0 k t191 (t194 != (wrap64 (-t191))) a0_0 a0_1 a0_2 a0_3 a1_0 a1_1 a1_2 a1_3 a2_0 a2_1 a2_2 a2_3)))))))) = some r := H
      have A18 := Aside0.mk A180
      clear A180
      by_cases c19 : ((decide (t191 < 0)) != t192) = true
      · rw [if_pos c19] at H
        have c19b0 : ((decide (t191 < 0)) != t192) = true := c19
        (try (have c19b1 : decide ((decide (t191 < 0)) = t192) = false := by simpa using c19))
        (try (have c19b2 : ((decide (t191 < 0)) == t192) = false := by simpa using c19))
        (try (have c19b3 : ¬ ((decide (t191 < 0)) = t192) := by simpa using c19))
        clear c19
        (first | rw [c19b0] | (simp only [i64_w, i32_w]; rw [c19b0]) | skip)
        have H' := Aside0.mk H
        clear H
        have hnb20 := NB187_188.out
        have hnc20 := NB188_187.out
        have hnb21 := NB187_189.out
        have hnc21 := NB189_187.out
        have hcz22_0 : w17.cell? ⟨gb187, 0, none⟩ = some (.int .i64 a0_0) := (blk_cell BK187.out 0).trans rfl
        have hcz22_1 : w17.cell? ⟨gb187, 1, none⟩ = some (.int .i64 a0_1) := (blk_cell BK187.out 1).trans rfl
        have hcz22_2 : w17.cell? ⟨gb187, 2, none⟩ = some (.int .i64 a0_2) := (blk_cell BK187.out 2).trans rfl
        have hcz22_3 : w17.cell? ⟨gb187, 3, none⟩ = some (.bool a0_3) := (blk_cell BK187.out 3).trans rfl
        have hfz22_0 := blk_frozen BK187.out 0
        have hfz22_1 := blk_frozen BK187.out 1
        have hfz22_2 := blk_frozen BK187.out 2
        have hfz22_3 := blk_frozen BK187.out 3
        have hnb23 := NB188_189.out
        have hnc23 := NB189_188.out
        have hcz24_0 : w17.cell? ⟨gb188, 0, none⟩ = some (.int .i64 a1_0) := (blk_cell BK188.out 0).trans rfl
        have hcz24_1 : w17.cell? ⟨gb188, 1, none⟩ = some (.int .i64 a1_1) := (blk_cell BK188.out 1).trans rfl
        have hcz24_2 : w17.cell? ⟨gb188, 2, none⟩ = some (.int .i64 a1_2) := (blk_cell BK188.out 2).trans rfl
        have hcz24_3 : w17.cell? ⟨gb188, 3, none⟩ = some (.bool a1_3) := (blk_cell BK188.out 3).trans rfl
        have hfz24_0 := blk_frozen BK188.out 0
        have hfz24_1 := blk_frozen BK188.out 1
        have hfz24_2 := blk_frozen BK188.out 2
        have hfz24_3 := blk_frozen BK188.out 3
        go_wp2_with (first | ((with_reducible refine gate_callee (f := 30) rfl ?_); refine goesL_ (some 17) rfl rfl Try.func30 (by kernel_rfl) rfl #[.agg #[.int .i64 a0_0, .int .i64 a0_1, .int .i64 a0_2, .bool a0_3], .agg #[.int .i64 a1_0, .int .i64 a1_1, .int .i64 a1_2, .bool a1_3]] rfl (by (try simp only [List.map_toArray, List.map_cons, List.map_nil]); first | done | rfl | (simp only [List.length_drop, List.length_take]; rfl)) ?_; (with_reducible refine (kakugyoref07_Less.calls a0_0 a0_1 a0_2 a0_3 a1_0 a1_1 a1_2 a1_3 t192 _ A18.out).mono ?_); rintro e w25 ⟨rfl, hb⟩; refine ⟨_, rfl, ?_⟩; have n0_ := Aside0.mk (blk_below (g := gb187) (o := .cells #[.int .i64 a0_0, .int .i64 a0_1, .int .i64 a0_2, .bool a0_3] 38 (0, 0)) (by (with_reducible repeat (first | refine blk_drewN ?_ _ | refine blk_drew ?_ | refine blk_alloc ?_ _)); exact BK187.out) hb); have n1_ := Aside0.mk (blk_below (g := gb188) (o := .cells #[.int .i64 a1_0, .int .i64 a1_1, .int .i64 a1_2, .bool a1_3] 38 (0, 0)) (by (with_reducible repeat (first | refine blk_drewN ?_ _ | refine blk_drew ?_ | refine blk_alloc ?_ _)); exact BK188.out) hb); have n2_ := Aside0.mk (blk_below (g := gb189) (o := .cells #[.int .i64 a2_0, .int .i64 a2_1, .int .i64 a2_2, .bool a2_3] 38 (0, 0)) (by (with_reducible repeat (first | refine blk_drewN ?_ _ | refine blk_drew ?_ | refine blk_alloc ?_ _)); exact BK189.out) hb); have n3_ := Aside0.mk (below_step (by repeat (first | (with_reducible first | exact HB.out | apply below_alloc | apply pw_below_drewN | apply below_drew1 | refine below_set ?_ GE187.out | refine below_set ?_ GE188.out | refine below_set ?_ GE189.out) | exact HB.out)) hb); clear BK187; clear BK188; clear BK189; clear HB; have BK187 := n0_; have BK188 := n1_; have BK189 := n2_; have HB := n3_; clear n0_ n1_ n2_ n3_; (try clear hb); (try clear hb2); (try clear hk); (try clear hi)))
        go_meet
        case rel => exact ⟨_, (true), (by first | rfl | (simp; done) | (simp [*]; done)), H', ⟨by first | omega | exact Nat.le_refl _⟩, ⟨by (with_reducible repeat (first | refine blk_drewN ?_ _ | refine blk_drew ?_ | refine blk_alloc ?_ _)); exact BK187.out⟩, ⟨by (with_reducible repeat (first | refine blk_drewN ?_ _ | refine blk_drew ?_ | refine blk_alloc ?_ _)); exact BK188.out⟩, ⟨by (with_reducible repeat (first | refine blk_drewN ?_ _ | refine blk_drew ?_ | refine blk_alloc ?_ _)); exact BK189.out⟩, ⟨by repeat (first | (with_reducible first | exact HB.out | apply below_alloc | apply pw_below_drewN | apply below_drew1 | refine below_set ?_ GE187.out | refine below_set ?_ GE188.out | refine below_set ?_ GE189.out) | exact HB.out)⟩⟩
      · rw [if_neg c19] at H
        have c19b0 : ((decide (t191 < 0)) != t192) = false := by simpa using c19
        (try (have c19b1 : decide ((decide (t191 < 0)) = t192) = true := by simpa using c19))
        (try (have c19b2 : ((decide (t191 < 0)) == t192) = true := by simpa using c19))
        clear c19
        (first | rw [c19b0] | (simp only [i64_w, i32_w]; rw [c19b0]) | skip)
        replace H := Option.bind_eq_some_iff.mp H
        obtain ⟨t193, A260, H⟩ := H
        replace H : (if ((decide (t191 > 0)) != t193) = true then (kakugyolaw07_MoveOrder.j0 k t191 true a0_0 a0_1 a0_2 a0_3 a1_0 a1_1 a1_2 a1_3 a2_0 a2_1 a2_2 a2_3) else (if ((t191 == 0) != (a0_0 == a1_0 && (a0_1 == a1_1 && (a0_2 == a1_2 && (a0_3 == a1_3))))) = true then (kakugyolaw07_MoveOrder.j0 k t191 true a0_0 a0_1 a0_2 a0_3 a1_0 a1_1 a1_2 a1_3 a2_0 a2_1 a2_2 a2_3) else (if t191 < (-1) then (kakugyolaw07_MoveOrder.j0 k t191 true a0_0 a0_1 a0_2 a0_3 a1_0 a1_1 a1_2 a1_3 a2_0 a2_1 a2_2 a2_3) else (if t191 > 1 then (kakugyolaw07_MoveOrder.j0 k t191 true a0_0 a0_1 a0_2 a0_3 a1_0 a1_1 a1_2 a1_3 a2_0 a2_1 a2_2 a2_3) else ((move_Compare.f a1_0 a1_1 a1_2 a1_3 a0_0 a0_1 a0_2 a0_3).bind fun t194 => (kakugyolaw07_MoveOrder.j0 k t191 (t194 != (wrap64 (-t191))) a0_0 a0_1 a0_2 a0_3 a1_0 a1_1 a1_2 a1_3 a2_0 a2_1 a2_2 a2_3)))))) = some r := H
        have A26 := Aside0.mk A260
        clear A260
        by_cases c27 : ((decide (t191 > 0)) != t193) = true
        · rw [if_pos c27] at H
          have c27b0 : ((decide (t191 > 0)) != t193) = true := c27
          (try (have c27b1 : decide ((decide (t191 > 0)) = t193) = false := by simpa using c27))
          (try (have c27b2 : ((decide (t191 > 0)) == t193) = false := by simpa using c27))
          (try (have c27b3 : ¬ ((decide (t191 > 0)) = t193) := by simpa using c27))
          clear c27
          have H' := Aside0.mk H
          clear H
          have hnb28 := NB187_188.out
          have hnc28 := NB188_187.out
          have hnb29 := NB187_189.out
          have hnc29 := NB189_187.out
          have hcz30_0 : w17.cell? ⟨gb187, 0, none⟩ = some (.int .i64 a0_0) := (blk_cell BK187.out 0).trans rfl
          have hcz30_1 : w17.cell? ⟨gb187, 1, none⟩ = some (.int .i64 a0_1) := (blk_cell BK187.out 1).trans rfl
          have hcz30_2 : w17.cell? ⟨gb187, 2, none⟩ = some (.int .i64 a0_2) := (blk_cell BK187.out 2).trans rfl
          have hcz30_3 : w17.cell? ⟨gb187, 3, none⟩ = some (.bool a0_3) := (blk_cell BK187.out 3).trans rfl
          have hfz30_0 := blk_frozen BK187.out 0
          have hfz30_1 := blk_frozen BK187.out 1
          have hfz30_2 := blk_frozen BK187.out 2
          have hfz30_3 := blk_frozen BK187.out 3
          have hnb31 := NB188_189.out
          have hnc31 := NB189_188.out
          have hcz32_0 : w17.cell? ⟨gb188, 0, none⟩ = some (.int .i64 a1_0) := (blk_cell BK188.out 0).trans rfl
          have hcz32_1 : w17.cell? ⟨gb188, 1, none⟩ = some (.int .i64 a1_1) := (blk_cell BK188.out 1).trans rfl
          have hcz32_2 : w17.cell? ⟨gb188, 2, none⟩ = some (.int .i64 a1_2) := (blk_cell BK188.out 2).trans rfl
          have hcz32_3 : w17.cell? ⟨gb188, 3, none⟩ = some (.bool a1_3) := (blk_cell BK188.out 3).trans rfl
          have hfz32_0 := blk_frozen BK188.out 0
          have hfz32_1 := blk_frozen BK188.out 1
          have hfz32_2 := blk_frozen BK188.out 2
          have hfz32_3 := blk_frozen BK188.out 3
          go_wp2_with (first | ((with_reducible refine gate_callee (f := 30) rfl ?_); refine goesL_ (some 17) rfl rfl Try.func30 (by kernel_rfl) rfl #[.agg #[.int .i64 a0_0, .int .i64 a0_1, .int .i64 a0_2, .bool a0_3], .agg #[.int .i64 a1_0, .int .i64 a1_1, .int .i64 a1_2, .bool a1_3]] rfl (by (try simp only [List.map_toArray, List.map_cons, List.map_nil]); first | done | rfl | (simp only [List.length_drop, List.length_take]; rfl)) ?_; (with_reducible refine (kakugyoref07_Less.calls a0_0 a0_1 a0_2 a0_3 a1_0 a1_1 a1_2 a1_3 t192 _ A18.out).mono ?_); rintro e w33 ⟨rfl, hb⟩; refine ⟨_, rfl, ?_⟩; have n0_ := Aside0.mk (blk_below (g := gb187) (o := .cells #[.int .i64 a0_0, .int .i64 a0_1, .int .i64 a0_2, .bool a0_3] 38 (0, 0)) (by (with_reducible repeat (first | refine blk_drewN ?_ _ | refine blk_drew ?_ | refine blk_alloc ?_ _)); exact BK187.out) hb); have n1_ := Aside0.mk (blk_below (g := gb188) (o := .cells #[.int .i64 a1_0, .int .i64 a1_1, .int .i64 a1_2, .bool a1_3] 38 (0, 0)) (by (with_reducible repeat (first | refine blk_drewN ?_ _ | refine blk_drew ?_ | refine blk_alloc ?_ _)); exact BK188.out) hb); have n2_ := Aside0.mk (blk_below (g := gb189) (o := .cells #[.int .i64 a2_0, .int .i64 a2_1, .int .i64 a2_2, .bool a2_3] 38 (0, 0)) (by (with_reducible repeat (first | refine blk_drewN ?_ _ | refine blk_drew ?_ | refine blk_alloc ?_ _)); exact BK189.out) hb); have n3_ := Aside0.mk (below_step (by repeat (first | (with_reducible first | exact HB.out | apply below_alloc | apply pw_below_drewN | apply below_drew1 | refine below_set ?_ GE187.out | refine below_set ?_ GE188.out | refine below_set ?_ GE189.out) | exact HB.out)) hb); clear BK187; clear BK188; clear BK189; clear HB; have BK187 := n0_; have BK188 := n1_; have BK189 := n2_; have HB := n3_; clear n0_ n1_ n2_ n3_; (try clear hb); (try clear hb2); (try clear hk); (try clear hi); have hcz34_0 : w33.cell? ⟨gb188, 0, none⟩ = some (.int .i64 a1_0) := (blk_cell BK188.out 0).trans rfl; have hcz34_1 : w33.cell? ⟨gb188, 1, none⟩ = some (.int .i64 a1_1) := (blk_cell BK188.out 1).trans rfl; have hcz34_2 : w33.cell? ⟨gb188, 2, none⟩ = some (.int .i64 a1_2) := (blk_cell BK188.out 2).trans rfl; have hcz34_3 : w33.cell? ⟨gb188, 3, none⟩ = some (.bool a1_3) := (blk_cell BK188.out 3).trans rfl; have hfz34_0 := blk_frozen BK188.out 0; have hfz34_1 := blk_frozen BK188.out 1; have hfz34_2 := blk_frozen BK188.out 2; have hfz34_3 := blk_frozen BK188.out 3; have hcz35_0 : w33.cell? ⟨gb187, 0, none⟩ = some (.int .i64 a0_0) := (blk_cell BK187.out 0).trans rfl; have hcz35_1 : w33.cell? ⟨gb187, 1, none⟩ = some (.int .i64 a0_1) := (blk_cell BK187.out 1).trans rfl; have hcz35_2 : w33.cell? ⟨gb187, 2, none⟩ = some (.int .i64 a0_2) := (blk_cell BK187.out 2).trans rfl; have hcz35_3 : w33.cell? ⟨gb187, 3, none⟩ = some (.bool a0_3) := (blk_cell BK187.out 3).trans rfl; have hfz35_0 := blk_frozen BK187.out 0; have hfz35_1 := blk_frozen BK187.out 1; have hfz35_2 := blk_frozen BK187.out 2; have hfz35_3 := blk_frozen BK187.out 3) | (go_at_call 30; (with_reducible refine (kakugyoref07_Less.calls a1_0 a1_1 a1_2 a1_3 a0_0 a0_1 a0_2 a0_3 t193 _ A26.out).mono ?_); rintro e w36 ⟨rfl, hb⟩; have n0_ := Aside0.mk (blk_below (g := gb187) (o := .cells #[.int .i64 a0_0, .int .i64 a0_1, .int .i64 a0_2, .bool a0_3] 38 (0, 0)) (by (with_reducible repeat (first | refine blk_drewN ?_ _ | refine blk_drew ?_ | refine blk_alloc ?_ _)); exact BK187.out) hb); have n1_ := Aside0.mk (blk_below (g := gb188) (o := .cells #[.int .i64 a1_0, .int .i64 a1_1, .int .i64 a1_2, .bool a1_3] 38 (0, 0)) (by (with_reducible repeat (first | refine blk_drewN ?_ _ | refine blk_drew ?_ | refine blk_alloc ?_ _)); exact BK188.out) hb); have n2_ := Aside0.mk (blk_below (g := gb189) (o := .cells #[.int .i64 a2_0, .int .i64 a2_1, .int .i64 a2_2, .bool a2_3] 38 (0, 0)) (by (with_reducible repeat (first | refine blk_drewN ?_ _ | refine blk_drew ?_ | refine blk_alloc ?_ _)); exact BK189.out) hb); have n3_ := Aside0.mk (below_step (by repeat (first | (with_reducible first | exact HB.out | apply below_alloc | apply pw_below_drewN | apply below_drew1 | refine below_set ?_ GE187.out | refine below_set ?_ GE188.out | refine below_set ?_ GE189.out) | exact HB.out)) hb); clear BK187; clear BK188; clear BK189; clear HB; have BK187 := n0_; have BK188 := n1_; have BK189 := n2_; have HB := n3_; clear n0_ n1_ n2_ n3_; (try clear hb); (try clear hb2); (try clear hk); (try clear hi)))
          go_meet
          case rel => exact ⟨_, (true), (by first | rfl | (simp; done) | (simp [*]; done)), H', ⟨by first | omega | exact Nat.le_refl _⟩, ⟨by (with_reducible repeat (first | refine blk_drewN ?_ _ | refine blk_drew ?_ | refine blk_alloc ?_ _)); exact BK187.out⟩, ⟨by (with_reducible repeat (first | refine blk_drewN ?_ _ | refine blk_drew ?_ | refine blk_alloc ?_ _)); exact BK188.out⟩, ⟨by (with_reducible repeat (first | refine blk_drewN ?_ _ | refine blk_drew ?_ | refine blk_alloc ?_ _)); exact BK189.out⟩, ⟨by repeat (first | (with_reducible first | exact HB.out | apply below_alloc | apply pw_below_drewN | apply below_drew1 | refine below_set ?_ GE187.out | refine below_set ?_ GE188.out | refine below_set ?_ GE189.out) | exact HB.out)⟩⟩
        · rw [if_neg c27] at H
          have c27b0 : ((decide (t191 > 0)) != t193) = false := by simpa using c27
          (try (have c27b1 : decide ((decide (t191 > 0)) = t193) = true := by simpa using c27))
          (try (have c27b2 : ((decide (t191 > 0)) == t193) = true := by simpa using c27))
          clear c27
          by_cases c37 : ((t191 == 0) != (a0_0 == a1_0 && (a0_1 == a1_1 && (a0_2 == a1_2 && (a0_3 == a1_3))))) = true
          · rw [if_pos c37] at H
            have c37b0 : ((t191 == 0) != (a0_0 == a1_0 && (a0_1 == a1_1 && (a0_2 == a1_2 && (a0_3 == a1_3))))) = true := c37
            (try (have c37b1 : decide ((t191 == 0) = (a0_0 == a1_0 && (a0_1 == a1_1 && (a0_2 == a1_2 && (a0_3 == a1_3))))) = false := by simpa using c37))
            (try (have c37b2 : ((t191 == 0) == (a0_0 == a1_0 && (a0_1 == a1_1 && (a0_2 == a1_2 && (a0_3 == a1_3))))) = false := by simpa using c37))
            (try (have c37b3 : ¬ ((t191 == 0) = (a0_0 == a1_0 && (a0_1 == a1_1 && (a0_2 == a1_2 && (a0_3 == a1_3))))) := by simpa using c37))
            clear c37
            have H' := Aside0.mk H
            clear H
            have hnb38 := NB187_188.out
            have hnc38 := NB188_187.out
            have hnb39 := NB187_189.out
            have hnc39 := NB189_187.out
            have hcz40_0 : w17.cell? ⟨gb187, 0, none⟩ = some (.int .i64 a0_0) := (blk_cell BK187.out 0).trans rfl
            have hcz40_1 : w17.cell? ⟨gb187, 1, none⟩ = some (.int .i64 a0_1) := (blk_cell BK187.out 1).trans rfl
            have hcz40_2 : w17.cell? ⟨gb187, 2, none⟩ = some (.int .i64 a0_2) := (blk_cell BK187.out 2).trans rfl
            have hcz40_3 : w17.cell? ⟨gb187, 3, none⟩ = some (.bool a0_3) := (blk_cell BK187.out 3).trans rfl
            have hfz40_0 := blk_frozen BK187.out 0
            have hfz40_1 := blk_frozen BK187.out 1
            have hfz40_2 := blk_frozen BK187.out 2
            have hfz40_3 := blk_frozen BK187.out 3
            have hnb41 := NB188_189.out
            have hnc41 := NB189_188.out
            have hcz42_0 : w17.cell? ⟨gb188, 0, none⟩ = some (.int .i64 a1_0) := (blk_cell BK188.out 0).trans rfl
            have hcz42_1 : w17.cell? ⟨gb188, 1, none⟩ = some (.int .i64 a1_1) := (blk_cell BK188.out 1).trans rfl
            have hcz42_2 : w17.cell? ⟨gb188, 2, none⟩ = some (.int .i64 a1_2) := (blk_cell BK188.out 2).trans rfl
            have hcz42_3 : w17.cell? ⟨gb188, 3, none⟩ = some (.bool a1_3) := (blk_cell BK188.out 3).trans rfl
            have hfz42_0 := blk_frozen BK188.out 0
            have hfz42_1 := blk_frozen BK188.out 1
            have hfz42_2 := blk_frozen BK188.out 2
            have hfz42_3 := blk_frozen BK188.out 3
            go_wp2_with (first | ((with_reducible refine gate_callee (f := 30) rfl ?_); refine goesL_ (some 17) rfl rfl Try.func30 (by kernel_rfl) rfl #[.agg #[.int .i64 a0_0, .int .i64 a0_1, .int .i64 a0_2, .bool a0_3], .agg #[.int .i64 a1_0, .int .i64 a1_1, .int .i64 a1_2, .bool a1_3]] rfl (by (try simp only [List.map_toArray, List.map_cons, List.map_nil]); first | done | rfl | (simp only [List.length_drop, List.length_take]; rfl)) ?_; (with_reducible refine (kakugyoref07_Less.calls a0_0 a0_1 a0_2 a0_3 a1_0 a1_1 a1_2 a1_3 t192 _ A18.out).mono ?_); rintro e w43 ⟨rfl, hb⟩; refine ⟨_, rfl, ?_⟩; have n0_ := Aside0.mk (blk_below (g := gb187) (o := .cells #[.int .i64 a0_0, .int .i64 a0_1, .int .i64 a0_2, .bool a0_3] 38 (0, 0)) (by (with_reducible repeat (first | refine blk_drewN ?_ _ | refine blk_drew ?_ | refine blk_alloc ?_ _)); exact BK187.out) hb); have n1_ := Aside0.mk (blk_below (g := gb188) (o := .cells #[.int .i64 a1_0, .int .i64 a1_1, .int .i64 a1_2, .bool a1_3] 38 (0, 0)) (by (with_reducible repeat (first | refine blk_drewN ?_ _ | refine blk_drew ?_ | refine blk_alloc ?_ _)); exact BK188.out) hb); have n2_ := Aside0.mk (blk_below (g := gb189) (o := .cells #[.int .i64 a2_0, .int .i64 a2_1, .int .i64 a2_2, .bool a2_3] 38 (0, 0)) (by (with_reducible repeat (first | refine blk_drewN ?_ _ | refine blk_drew ?_ | refine blk_alloc ?_ _)); exact BK189.out) hb); have n3_ := Aside0.mk (below_step (by repeat (first | (with_reducible first | exact HB.out | apply below_alloc | apply pw_below_drewN | apply below_drew1 | refine below_set ?_ GE187.out | refine below_set ?_ GE188.out | refine below_set ?_ GE189.out) | exact HB.out)) hb); clear BK187; clear BK188; clear BK189; clear HB; have BK187 := n0_; have BK188 := n1_; have BK189 := n2_; have HB := n3_; clear n0_ n1_ n2_ n3_; (try clear hb); (try clear hb2); (try clear hk); (try clear hi); have hcz44_0 : w43.cell? ⟨gb188, 0, none⟩ = some (.int .i64 a1_0) := (blk_cell BK188.out 0).trans rfl; have hcz44_1 : w43.cell? ⟨gb188, 1, none⟩ = some (.int .i64 a1_1) := (blk_cell BK188.out 1).trans rfl; have hcz44_2 : w43.cell? ⟨gb188, 2, none⟩ = some (.int .i64 a1_2) := (blk_cell BK188.out 2).trans rfl; have hcz44_3 : w43.cell? ⟨gb188, 3, none⟩ = some (.bool a1_3) := (blk_cell BK188.out 3).trans rfl; have hfz44_0 := blk_frozen BK188.out 0; have hfz44_1 := blk_frozen BK188.out 1; have hfz44_2 := blk_frozen BK188.out 2; have hfz44_3 := blk_frozen BK188.out 3; have hcz45_0 : w43.cell? ⟨gb187, 0, none⟩ = some (.int .i64 a0_0) := (blk_cell BK187.out 0).trans rfl; have hcz45_1 : w43.cell? ⟨gb187, 1, none⟩ = some (.int .i64 a0_1) := (blk_cell BK187.out 1).trans rfl; have hcz45_2 : w43.cell? ⟨gb187, 2, none⟩ = some (.int .i64 a0_2) := (blk_cell BK187.out 2).trans rfl; have hcz45_3 : w43.cell? ⟨gb187, 3, none⟩ = some (.bool a0_3) := (blk_cell BK187.out 3).trans rfl; have hfz45_0 := blk_frozen BK187.out 0; have hfz45_1 := blk_frozen BK187.out 1; have hfz45_2 := blk_frozen BK187.out 2; have hfz45_3 := blk_frozen BK187.out 3) | (go_at_call 30; (with_reducible refine (kakugyoref07_Less.calls a1_0 a1_1 a1_2 a1_3 a0_0 a0_1 a0_2 a0_3 t193 _ A26.out).mono ?_); rintro e w46 ⟨rfl, hb⟩; have n0_ := Aside0.mk (blk_below (g := gb187) (o := .cells #[.int .i64 a0_0, .int .i64 a0_1, .int .i64 a0_2, .bool a0_3] 38 (0, 0)) (by (with_reducible repeat (first | refine blk_drewN ?_ _ | refine blk_drew ?_ | refine blk_alloc ?_ _)); exact BK187.out) hb); have n1_ := Aside0.mk (blk_below (g := gb188) (o := .cells #[.int .i64 a1_0, .int .i64 a1_1, .int .i64 a1_2, .bool a1_3] 38 (0, 0)) (by (with_reducible repeat (first | refine blk_drewN ?_ _ | refine blk_drew ?_ | refine blk_alloc ?_ _)); exact BK188.out) hb); have n2_ := Aside0.mk (blk_below (g := gb189) (o := .cells #[.int .i64 a2_0, .int .i64 a2_1, .int .i64 a2_2, .bool a2_3] 38 (0, 0)) (by (with_reducible repeat (first | refine blk_drewN ?_ _ | refine blk_drew ?_ | refine blk_alloc ?_ _)); exact BK189.out) hb); have n3_ := Aside0.mk (below_step (by repeat (first | (with_reducible first | exact HB.out | apply below_alloc | apply pw_below_drewN | apply below_drew1 | refine below_set ?_ GE187.out | refine below_set ?_ GE188.out | refine below_set ?_ GE189.out) | exact HB.out)) hb); clear BK187; clear BK188; clear BK189; clear HB; have BK187 := n0_; have BK188 := n1_; have BK189 := n2_; have HB := n3_; clear n0_ n1_ n2_ n3_; (try clear hb); (try clear hb2); (try clear hk); (try clear hi); have hcz47_0 : w46.cell? ⟨gb187, 0, none⟩ = some (.int .i64 a0_0) := (blk_cell BK187.out 0).trans rfl; have hcz47_1 : w46.cell? ⟨gb187, 1, none⟩ = some (.int .i64 a0_1) := (blk_cell BK187.out 1).trans rfl; have hcz47_2 : w46.cell? ⟨gb187, 2, none⟩ = some (.int .i64 a0_2) := (blk_cell BK187.out 2).trans rfl; have hcz47_3 : w46.cell? ⟨gb187, 3, none⟩ = some (.bool a0_3) := (blk_cell BK187.out 3).trans rfl; have hfz47_0 := blk_frozen BK187.out 0; have hfz47_1 := blk_frozen BK187.out 1; have hfz47_2 := blk_frozen BK187.out 2; have hfz47_3 := blk_frozen BK187.out 3; have hcz48_0 : w46.cell? ⟨gb188, 0, none⟩ = some (.int .i64 a1_0) := (blk_cell BK188.out 0).trans rfl; have hcz48_1 : w46.cell? ⟨gb188, 1, none⟩ = some (.int .i64 a1_1) := (blk_cell BK188.out 1).trans rfl; have hcz48_2 : w46.cell? ⟨gb188, 2, none⟩ = some (.int .i64 a1_2) := (blk_cell BK188.out 2).trans rfl; have hcz48_3 : w46.cell? ⟨gb188, 3, none⟩ = some (.bool a1_3) := (blk_cell BK188.out 3).trans rfl; have hfz48_0 := blk_frozen BK188.out 0; have hfz48_1 := blk_frozen BK188.out 1; have hfz48_2 := blk_frozen BK188.out 2; have hfz48_3 := blk_frozen BK188.out 3))
            go_meet
            case rel => exact ⟨_, (true), (by first | rfl | (simp; done) | (simp [*]; done)), H', ⟨by first | omega | exact Nat.le_refl _⟩, ⟨by (with_reducible repeat (first | refine blk_drewN ?_ _ | refine blk_drew ?_ | refine blk_alloc ?_ _)); exact BK187.out⟩, ⟨by (with_reducible repeat (first | refine blk_drewN ?_ _ | refine blk_drew ?_ | refine blk_alloc ?_ _)); exact BK188.out⟩, ⟨by (with_reducible repeat (first | refine blk_drewN ?_ _ | refine blk_drew ?_ | refine blk_alloc ?_ _)); exact BK189.out⟩, ⟨by repeat (first | (with_reducible first | exact HB.out | apply below_alloc | apply pw_below_drewN | apply below_drew1 | refine below_set ?_ GE187.out | refine below_set ?_ GE188.out | refine below_set ?_ GE189.out) | exact HB.out)⟩⟩
          · rw [if_neg c37] at H
            have c37b0 : ((t191 == 0) != (a0_0 == a1_0 && (a0_1 == a1_1 && (a0_2 == a1_2 && (a0_3 == a1_3))))) = false := by simpa using c37
            (try (have c37b1 : decide ((t191 == 0) = (a0_0 == a1_0 && (a0_1 == a1_1 && (a0_2 == a1_2 && (a0_3 == a1_3))))) = true := by simpa using c37))
            (try (have c37b2 : ((t191 == 0) == (a0_0 == a1_0 && (a0_1 == a1_1 && (a0_2 == a1_2 && (a0_3 == a1_3))))) = true := by simpa using c37))
            clear c37
            by_cases c49 : t191 < (-1)
            · rw [if_pos c49] at H
              have c49b0 : decide (t191 < (-1)) = true := decide_eq_true c49
              clear c49
              have H' := Aside0.mk H
              clear H
              have hnb50 := NB187_188.out
              have hnc50 := NB188_187.out
              have hnb51 := NB187_189.out
              have hnc51 := NB189_187.out
              have hcz52_0 : w17.cell? ⟨gb187, 0, none⟩ = some (.int .i64 a0_0) := (blk_cell BK187.out 0).trans rfl
              have hcz52_1 : w17.cell? ⟨gb187, 1, none⟩ = some (.int .i64 a0_1) := (blk_cell BK187.out 1).trans rfl
              have hcz52_2 : w17.cell? ⟨gb187, 2, none⟩ = some (.int .i64 a0_2) := (blk_cell BK187.out 2).trans rfl
              have hcz52_3 : w17.cell? ⟨gb187, 3, none⟩ = some (.bool a0_3) := (blk_cell BK187.out 3).trans rfl
              have hfz52_0 := blk_frozen BK187.out 0
              have hfz52_1 := blk_frozen BK187.out 1
              have hfz52_2 := blk_frozen BK187.out 2
              have hfz52_3 := blk_frozen BK187.out 3
              have hnb53 := NB188_189.out
              have hnc53 := NB189_188.out
              have hcz54_0 : w17.cell? ⟨gb188, 0, none⟩ = some (.int .i64 a1_0) := (blk_cell BK188.out 0).trans rfl
              have hcz54_1 : w17.cell? ⟨gb188, 1, none⟩ = some (.int .i64 a1_1) := (blk_cell BK188.out 1).trans rfl
              have hcz54_2 : w17.cell? ⟨gb188, 2, none⟩ = some (.int .i64 a1_2) := (blk_cell BK188.out 2).trans rfl
              have hcz54_3 : w17.cell? ⟨gb188, 3, none⟩ = some (.bool a1_3) := (blk_cell BK188.out 3).trans rfl
              have hfz54_0 := blk_frozen BK188.out 0
              have hfz54_1 := blk_frozen BK188.out 1
              have hfz54_2 := blk_frozen BK188.out 2
              have hfz54_3 := blk_frozen BK188.out 3
              go_wp2_with (first | ((with_reducible refine gate_callee (f := 30) rfl ?_); refine goesL_ (some 17) rfl rfl Try.func30 (by kernel_rfl) rfl #[.agg #[.int .i64 a0_0, .int .i64 a0_1, .int .i64 a0_2, .bool a0_3], .agg #[.int .i64 a1_0, .int .i64 a1_1, .int .i64 a1_2, .bool a1_3]] rfl (by (try simp only [List.map_toArray, List.map_cons, List.map_nil]); first | done | rfl | (simp only [List.length_drop, List.length_take]; rfl)) ?_; (with_reducible refine (kakugyoref07_Less.calls a0_0 a0_1 a0_2 a0_3 a1_0 a1_1 a1_2 a1_3 t192 _ A18.out).mono ?_); rintro e w55 ⟨rfl, hb⟩; refine ⟨_, rfl, ?_⟩; have n0_ := Aside0.mk (blk_below (g := gb187) (o := .cells #[.int .i64 a0_0, .int .i64 a0_1, .int .i64 a0_2, .bool a0_3] 38 (0, 0)) (by (with_reducible repeat (first | refine blk_drewN ?_ _ | refine blk_drew ?_ | refine blk_alloc ?_ _)); exact BK187.out) hb); have n1_ := Aside0.mk (blk_below (g := gb188) (o := .cells #[.int .i64 a1_0, .int .i64 a1_1, .int .i64 a1_2, .bool a1_3] 38 (0, 0)) (by (with_reducible repeat (first | refine blk_drewN ?_ _ | refine blk_drew ?_ | refine blk_alloc ?_ _)); exact BK188.out) hb); have n2_ := Aside0.mk (blk_below (g := gb189) (o := .cells #[.int .i64 a2_0, .int .i64 a2_1, .int .i64 a2_2, .bool a2_3] 38 (0, 0)) (by (with_reducible repeat (first | refine blk_drewN ?_ _ | refine blk_drew ?_ | refine blk_alloc ?_ _)); exact BK189.out) hb); have n3_ := Aside0.mk (below_step (by repeat (first | (with_reducible first | exact HB.out | apply below_alloc | apply pw_below_drewN | apply below_drew1 | refine below_set ?_ GE187.out | refine below_set ?_ GE188.out | refine below_set ?_ GE189.out) | exact HB.out)) hb); clear BK187; clear BK188; clear BK189; clear HB; have BK187 := n0_; have BK188 := n1_; have BK189 := n2_; have HB := n3_; clear n0_ n1_ n2_ n3_; (try clear hb); (try clear hb2); (try clear hk); (try clear hi); have hcz56_0 : w55.cell? ⟨gb188, 0, none⟩ = some (.int .i64 a1_0) := (blk_cell BK188.out 0).trans rfl; have hcz56_1 : w55.cell? ⟨gb188, 1, none⟩ = some (.int .i64 a1_1) := (blk_cell BK188.out 1).trans rfl; have hcz56_2 : w55.cell? ⟨gb188, 2, none⟩ = some (.int .i64 a1_2) := (blk_cell BK188.out 2).trans rfl; have hcz56_3 : w55.cell? ⟨gb188, 3, none⟩ = some (.bool a1_3) := (blk_cell BK188.out 3).trans rfl; have hfz56_0 := blk_frozen BK188.out 0; have hfz56_1 := blk_frozen BK188.out 1; have hfz56_2 := blk_frozen BK188.out 2; have hfz56_3 := blk_frozen BK188.out 3; have hcz57_0 : w55.cell? ⟨gb187, 0, none⟩ = some (.int .i64 a0_0) := (blk_cell BK187.out 0).trans rfl; have hcz57_1 : w55.cell? ⟨gb187, 1, none⟩ = some (.int .i64 a0_1) := (blk_cell BK187.out 1).trans rfl; have hcz57_2 : w55.cell? ⟨gb187, 2, none⟩ = some (.int .i64 a0_2) := (blk_cell BK187.out 2).trans rfl; have hcz57_3 : w55.cell? ⟨gb187, 3, none⟩ = some (.bool a0_3) := (blk_cell BK187.out 3).trans rfl; have hfz57_0 := blk_frozen BK187.out 0; have hfz57_1 := blk_frozen BK187.out 1; have hfz57_2 := blk_frozen BK187.out 2; have hfz57_3 := blk_frozen BK187.out 3) | (go_at_call 30; (with_reducible refine (kakugyoref07_Less.calls a1_0 a1_1 a1_2 a1_3 a0_0 a0_1 a0_2 a0_3 t193 _ A26.out).mono ?_); rintro e w58 ⟨rfl, hb⟩; have n0_ := Aside0.mk (blk_below (g := gb187) (o := .cells #[.int .i64 a0_0, .int .i64 a0_1, .int .i64 a0_2, .bool a0_3] 38 (0, 0)) (by (with_reducible repeat (first | refine blk_drewN ?_ _ | refine blk_drew ?_ | refine blk_alloc ?_ _)); exact BK187.out) hb); have n1_ := Aside0.mk (blk_below (g := gb188) (o := .cells #[.int .i64 a1_0, .int .i64 a1_1, .int .i64 a1_2, .bool a1_3] 38 (0, 0)) (by (with_reducible repeat (first | refine blk_drewN ?_ _ | refine blk_drew ?_ | refine blk_alloc ?_ _)); exact BK188.out) hb); have n2_ := Aside0.mk (blk_below (g := gb189) (o := .cells #[.int .i64 a2_0, .int .i64 a2_1, .int .i64 a2_2, .bool a2_3] 38 (0, 0)) (by (with_reducible repeat (first | refine blk_drewN ?_ _ | refine blk_drew ?_ | refine blk_alloc ?_ _)); exact BK189.out) hb); have n3_ := Aside0.mk (below_step (by repeat (first | (with_reducible first | exact HB.out | apply below_alloc | apply pw_below_drewN | apply below_drew1 | refine below_set ?_ GE187.out | refine below_set ?_ GE188.out | refine below_set ?_ GE189.out) | exact HB.out)) hb); clear BK187; clear BK188; clear BK189; clear HB; have BK187 := n0_; have BK188 := n1_; have BK189 := n2_; have HB := n3_; clear n0_ n1_ n2_ n3_; (try clear hb); (try clear hb2); (try clear hk); (try clear hi); have hcz59_0 : w58.cell? ⟨gb187, 0, none⟩ = some (.int .i64 a0_0) := (blk_cell BK187.out 0).trans rfl; have hcz59_1 : w58.cell? ⟨gb187, 1, none⟩ = some (.int .i64 a0_1) := (blk_cell BK187.out 1).trans rfl; have hcz59_2 : w58.cell? ⟨gb187, 2, none⟩ = some (.int .i64 a0_2) := (blk_cell BK187.out 2).trans rfl; have hcz59_3 : w58.cell? ⟨gb187, 3, none⟩ = some (.bool a0_3) := (blk_cell BK187.out 3).trans rfl; have hfz59_0 := blk_frozen BK187.out 0; have hfz59_1 := blk_frozen BK187.out 1; have hfz59_2 := blk_frozen BK187.out 2; have hfz59_3 := blk_frozen BK187.out 3; have hcz60_0 : w58.cell? ⟨gb188, 0, none⟩ = some (.int .i64 a1_0) := (blk_cell BK188.out 0).trans rfl; have hcz60_1 : w58.cell? ⟨gb188, 1, none⟩ = some (.int .i64 a1_1) := (blk_cell BK188.out 1).trans rfl; have hcz60_2 : w58.cell? ⟨gb188, 2, none⟩ = some (.int .i64 a1_2) := (blk_cell BK188.out 2).trans rfl; have hcz60_3 : w58.cell? ⟨gb188, 3, none⟩ = some (.bool a1_3) := (blk_cell BK188.out 3).trans rfl; have hfz60_0 := blk_frozen BK188.out 0; have hfz60_1 := blk_frozen BK188.out 1; have hfz60_2 := blk_frozen BK188.out 2; have hfz60_3 := blk_frozen BK188.out 3))
              go_meet
              case rel => exact ⟨_, (true), (by first | rfl | (simp; done) | (simp [*]; done)), H', ⟨by first | omega | exact Nat.le_refl _⟩, ⟨by (with_reducible repeat (first | refine blk_drewN ?_ _ | refine blk_drew ?_ | refine blk_alloc ?_ _)); exact BK187.out⟩, ⟨by (with_reducible repeat (first | refine blk_drewN ?_ _ | refine blk_drew ?_ | refine blk_alloc ?_ _)); exact BK188.out⟩, ⟨by (with_reducible repeat (first | refine blk_drewN ?_ _ | refine blk_drew ?_ | refine blk_alloc ?_ _)); exact BK189.out⟩, ⟨by repeat (first | (with_reducible first | exact HB.out | apply below_alloc | apply pw_below_drewN | apply below_drew1 | refine below_set ?_ GE187.out | refine below_set ?_ GE188.out | refine below_set ?_ GE189.out) | exact HB.out)⟩⟩
            · rw [if_neg c49] at H
              have c49b0 : decide (t191 < (-1)) = false := decide_eq_false c49
              clear c49
              by_cases c61 : t191 > 1
              · rw [if_pos c61] at H
                have c61b0 : decide (1 < t191) = true := decide_eq_true c61
                clear c61
                have H' := Aside0.mk H
                clear H
                have hnb62 := NB187_188.out
                have hnc62 := NB188_187.out
                have hnb63 := NB187_189.out
                have hnc63 := NB189_187.out
                have hcz64_0 : w17.cell? ⟨gb187, 0, none⟩ = some (.int .i64 a0_0) := (blk_cell BK187.out 0).trans rfl
                have hcz64_1 : w17.cell? ⟨gb187, 1, none⟩ = some (.int .i64 a0_1) := (blk_cell BK187.out 1).trans rfl
                have hcz64_2 : w17.cell? ⟨gb187, 2, none⟩ = some (.int .i64 a0_2) := (blk_cell BK187.out 2).trans rfl
                have hcz64_3 : w17.cell? ⟨gb187, 3, none⟩ = some (.bool a0_3) := (blk_cell BK187.out 3).trans rfl
                have hfz64_0 := blk_frozen BK187.out 0
                have hfz64_1 := blk_frozen BK187.out 1
                have hfz64_2 := blk_frozen BK187.out 2
                have hfz64_3 := blk_frozen BK187.out 3
                have hnb65 := NB188_189.out
                have hnc65 := NB189_188.out
                have hcz66_0 : w17.cell? ⟨gb188, 0, none⟩ = some (.int .i64 a1_0) := (blk_cell BK188.out 0).trans rfl
                have hcz66_1 : w17.cell? ⟨gb188, 1, none⟩ = some (.int .i64 a1_1) := (blk_cell BK188.out 1).trans rfl
                have hcz66_2 : w17.cell? ⟨gb188, 2, none⟩ = some (.int .i64 a1_2) := (blk_cell BK188.out 2).trans rfl
                have hcz66_3 : w17.cell? ⟨gb188, 3, none⟩ = some (.bool a1_3) := (blk_cell BK188.out 3).trans rfl
                have hfz66_0 := blk_frozen BK188.out 0
                have hfz66_1 := blk_frozen BK188.out 1
                have hfz66_2 := blk_frozen BK188.out 2
                have hfz66_3 := blk_frozen BK188.out 3
                go_wp2_with (first | ((with_reducible refine gate_callee (f := 30) rfl ?_); refine goesL_ (some 17) rfl rfl Try.func30 (by kernel_rfl) rfl #[.agg #[.int .i64 a0_0, .int .i64 a0_1, .int .i64 a0_2, .bool a0_3], .agg #[.int .i64 a1_0, .int .i64 a1_1, .int .i64 a1_2, .bool a1_3]] rfl (by (try simp only [List.map_toArray, List.map_cons, List.map_nil]); first | done | rfl | (simp only [List.length_drop, List.length_take]; rfl)) ?_; (with_reducible refine (kakugyoref07_Less.calls a0_0 a0_1 a0_2 a0_3 a1_0 a1_1 a1_2 a1_3 t192 _ A18.out).mono ?_); rintro e w67 ⟨rfl, hb⟩; refine ⟨_, rfl, ?_⟩; have n0_ := Aside0.mk (blk_below (g := gb187) (o := .cells #[.int .i64 a0_0, .int .i64 a0_1, .int .i64 a0_2, .bool a0_3] 38 (0, 0)) (by (with_reducible repeat (first | refine blk_drewN ?_ _ | refine blk_drew ?_ | refine blk_alloc ?_ _)); exact BK187.out) hb); have n1_ := Aside0.mk (blk_below (g := gb188) (o := .cells #[.int .i64 a1_0, .int .i64 a1_1, .int .i64 a1_2, .bool a1_3] 38 (0, 0)) (by (with_reducible repeat (first | refine blk_drewN ?_ _ | refine blk_drew ?_ | refine blk_alloc ?_ _)); exact BK188.out) hb); have n2_ := Aside0.mk (blk_below (g := gb189) (o := .cells #[.int .i64 a2_0, .int .i64 a2_1, .int .i64 a2_2, .bool a2_3] 38 (0, 0)) (by (with_reducible repeat (first | refine blk_drewN ?_ _ | refine blk_drew ?_ | refine blk_alloc ?_ _)); exact BK189.out) hb); have n3_ := Aside0.mk (below_step (by repeat (first | (with_reducible first | exact HB.out | apply below_alloc | apply pw_below_drewN | apply below_drew1 | refine below_set ?_ GE187.out | refine below_set ?_ GE188.out | refine below_set ?_ GE189.out) | exact HB.out)) hb); clear BK187; clear BK188; clear BK189; clear HB; have BK187 := n0_; have BK188 := n1_; have BK189 := n2_; have HB := n3_; clear n0_ n1_ n2_ n3_; (try clear hb); (try clear hb2); (try clear hk); (try clear hi); have hcz68_0 : w67.cell? ⟨gb188, 0, none⟩ = some (.int .i64 a1_0) := (blk_cell BK188.out 0).trans rfl; have hcz68_1 : w67.cell? ⟨gb188, 1, none⟩ = some (.int .i64 a1_1) := (blk_cell BK188.out 1).trans rfl; have hcz68_2 : w67.cell? ⟨gb188, 2, none⟩ = some (.int .i64 a1_2) := (blk_cell BK188.out 2).trans rfl; have hcz68_3 : w67.cell? ⟨gb188, 3, none⟩ = some (.bool a1_3) := (blk_cell BK188.out 3).trans rfl; have hfz68_0 := blk_frozen BK188.out 0; have hfz68_1 := blk_frozen BK188.out 1; have hfz68_2 := blk_frozen BK188.out 2; have hfz68_3 := blk_frozen BK188.out 3; have hcz69_0 : w67.cell? ⟨gb187, 0, none⟩ = some (.int .i64 a0_0) := (blk_cell BK187.out 0).trans rfl; have hcz69_1 : w67.cell? ⟨gb187, 1, none⟩ = some (.int .i64 a0_1) := (blk_cell BK187.out 1).trans rfl; have hcz69_2 : w67.cell? ⟨gb187, 2, none⟩ = some (.int .i64 a0_2) := (blk_cell BK187.out 2).trans rfl; have hcz69_3 : w67.cell? ⟨gb187, 3, none⟩ = some (.bool a0_3) := (blk_cell BK187.out 3).trans rfl; have hfz69_0 := blk_frozen BK187.out 0; have hfz69_1 := blk_frozen BK187.out 1; have hfz69_2 := blk_frozen BK187.out 2; have hfz69_3 := blk_frozen BK187.out 3) | (go_at_call 30; (with_reducible refine (kakugyoref07_Less.calls a1_0 a1_1 a1_2 a1_3 a0_0 a0_1 a0_2 a0_3 t193 _ A26.out).mono ?_); rintro e w70 ⟨rfl, hb⟩; have n0_ := Aside0.mk (blk_below (g := gb187) (o := .cells #[.int .i64 a0_0, .int .i64 a0_1, .int .i64 a0_2, .bool a0_3] 38 (0, 0)) (by (with_reducible repeat (first | refine blk_drewN ?_ _ | refine blk_drew ?_ | refine blk_alloc ?_ _)); exact BK187.out) hb); have n1_ := Aside0.mk (blk_below (g := gb188) (o := .cells #[.int .i64 a1_0, .int .i64 a1_1, .int .i64 a1_2, .bool a1_3] 38 (0, 0)) (by (with_reducible repeat (first | refine blk_drewN ?_ _ | refine blk_drew ?_ | refine blk_alloc ?_ _)); exact BK188.out) hb); have n2_ := Aside0.mk (blk_below (g := gb189) (o := .cells #[.int .i64 a2_0, .int .i64 a2_1, .int .i64 a2_2, .bool a2_3] 38 (0, 0)) (by (with_reducible repeat (first | refine blk_drewN ?_ _ | refine blk_drew ?_ | refine blk_alloc ?_ _)); exact BK189.out) hb); have n3_ := Aside0.mk (below_step (by repeat (first | (with_reducible first | exact HB.out | apply below_alloc | apply pw_below_drewN | apply below_drew1 | refine below_set ?_ GE187.out | refine below_set ?_ GE188.out | refine below_set ?_ GE189.out) | exact HB.out)) hb); clear BK187; clear BK188; clear BK189; clear HB; have BK187 := n0_; have BK188 := n1_; have BK189 := n2_; have HB := n3_; clear n0_ n1_ n2_ n3_; (try clear hb); (try clear hb2); (try clear hk); (try clear hi); have hcz71_0 : w70.cell? ⟨gb187, 0, none⟩ = some (.int .i64 a0_0) := (blk_cell BK187.out 0).trans rfl; have hcz71_1 : w70.cell? ⟨gb187, 1, none⟩ = some (.int .i64 a0_1) := (blk_cell BK187.out 1).trans rfl; have hcz71_2 : w70.cell? ⟨gb187, 2, none⟩ = some (.int .i64 a0_2) := (blk_cell BK187.out 2).trans rfl; have hcz71_3 : w70.cell? ⟨gb187, 3, none⟩ = some (.bool a0_3) := (blk_cell BK187.out 3).trans rfl; have hfz71_0 := blk_frozen BK187.out 0; have hfz71_1 := blk_frozen BK187.out 1; have hfz71_2 := blk_frozen BK187.out 2; have hfz71_3 := blk_frozen BK187.out 3; have hcz72_0 : w70.cell? ⟨gb188, 0, none⟩ = some (.int .i64 a1_0) := (blk_cell BK188.out 0).trans rfl; have hcz72_1 : w70.cell? ⟨gb188, 1, none⟩ = some (.int .i64 a1_1) := (blk_cell BK188.out 1).trans rfl; have hcz72_2 : w70.cell? ⟨gb188, 2, none⟩ = some (.int .i64 a1_2) := (blk_cell BK188.out 2).trans rfl; have hcz72_3 : w70.cell? ⟨gb188, 3, none⟩ = some (.bool a1_3) := (blk_cell BK188.out 3).trans rfl; have hfz72_0 := blk_frozen BK188.out 0; have hfz72_1 := blk_frozen BK188.out 1; have hfz72_2 := blk_frozen BK188.out 2; have hfz72_3 := blk_frozen BK188.out 3))
                go_meet
                case rel => exact ⟨_, (true), (by first | rfl | (simp; done) | (simp [*]; done)), H', ⟨by first | omega | exact Nat.le_refl _⟩, ⟨by (with_reducible repeat (first | refine blk_drewN ?_ _ | refine blk_drew ?_ | refine blk_alloc ?_ _)); exact BK187.out⟩, ⟨by (with_reducible repeat (first | refine blk_drewN ?_ _ | refine blk_drew ?_ | refine blk_alloc ?_ _)); exact BK188.out⟩, ⟨by (with_reducible repeat (first | refine blk_drewN ?_ _ | refine blk_drew ?_ | refine blk_alloc ?_ _)); exact BK189.out⟩, ⟨by repeat (first | (with_reducible first | exact HB.out | apply below_alloc | apply pw_below_drewN | apply below_drew1 | refine below_set ?_ GE187.out | refine below_set ?_ GE188.out | refine below_set ?_ GE189.out) | exact HB.out)⟩⟩
              · rw [if_neg c61] at H
                have c61b0 : decide (1 < t191) = false := decide_eq_false c61
                clear c61
                replace H := Option.bind_eq_some_iff.mp H
                obtain ⟨t194, A730, H⟩ := H
                replace H : (kakugyolaw07_MoveOrder.j0 k t191 (t194 != (wrap64 (-t191))) a0_0 a0_1 a0_2 a0_3 a1_0 a1_1 a1_2 a1_3 a2_0 a2_1 a2_2 a2_3) = some r := H
                have A73 := Aside0.mk A730
                clear A730
                have H' := Aside0.mk H
                clear H
                have hnb74 := NB187_188.out
                have hnc74 := NB188_187.out
                have hnb75 := NB187_189.out
                have hnc75 := NB189_187.out
                have hcz76_0 : w17.cell? ⟨gb187, 0, none⟩ = some (.int .i64 a0_0) := (blk_cell BK187.out 0).trans rfl
                have hcz76_1 : w17.cell? ⟨gb187, 1, none⟩ = some (.int .i64 a0_1) := (blk_cell BK187.out 1).trans rfl
                have hcz76_2 : w17.cell? ⟨gb187, 2, none⟩ = some (.int .i64 a0_2) := (blk_cell BK187.out 2).trans rfl
                have hcz76_3 : w17.cell? ⟨gb187, 3, none⟩ = some (.bool a0_3) := (blk_cell BK187.out 3).trans rfl
                have hfz76_0 := blk_frozen BK187.out 0
                have hfz76_1 := blk_frozen BK187.out 1
                have hfz76_2 := blk_frozen BK187.out 2
                have hfz76_3 := blk_frozen BK187.out 3
                have hnb77 := NB188_189.out
                have hnc77 := NB189_188.out
                have hcz78_0 : w17.cell? ⟨gb188, 0, none⟩ = some (.int .i64 a1_0) := (blk_cell BK188.out 0).trans rfl
                have hcz78_1 : w17.cell? ⟨gb188, 1, none⟩ = some (.int .i64 a1_1) := (blk_cell BK188.out 1).trans rfl
                have hcz78_2 : w17.cell? ⟨gb188, 2, none⟩ = some (.int .i64 a1_2) := (blk_cell BK188.out 2).trans rfl
                have hcz78_3 : w17.cell? ⟨gb188, 3, none⟩ = some (.bool a1_3) := (blk_cell BK188.out 3).trans rfl
                have hfz78_0 := blk_frozen BK188.out 0
                have hfz78_1 := blk_frozen BK188.out 1
                have hfz78_2 := blk_frozen BK188.out 2
                have hfz78_3 := blk_frozen BK188.out 3
                go_wp2_with (first | ((with_reducible refine gate_callee (f := 30) rfl ?_); refine goesL_ (some 17) rfl rfl Try.func30 (by kernel_rfl) rfl #[.agg #[.int .i64 a0_0, .int .i64 a0_1, .int .i64 a0_2, .bool a0_3], .agg #[.int .i64 a1_0, .int .i64 a1_1, .int .i64 a1_2, .bool a1_3]] rfl (by (try simp only [List.map_toArray, List.map_cons, List.map_nil]); first | done | rfl | (simp only [List.length_drop, List.length_take]; rfl)) ?_; (with_reducible refine (kakugyoref07_Less.calls a0_0 a0_1 a0_2 a0_3 a1_0 a1_1 a1_2 a1_3 t192 _ A18.out).mono ?_); rintro e w79 ⟨rfl, hb⟩; refine ⟨_, rfl, ?_⟩; have n0_ := Aside0.mk (blk_below (g := gb187) (o := .cells #[.int .i64 a0_0, .int .i64 a0_1, .int .i64 a0_2, .bool a0_3] 38 (0, 0)) (by (with_reducible repeat (first | refine blk_drewN ?_ _ | refine blk_drew ?_ | refine blk_alloc ?_ _)); exact BK187.out) hb); have n1_ := Aside0.mk (blk_below (g := gb188) (o := .cells #[.int .i64 a1_0, .int .i64 a1_1, .int .i64 a1_2, .bool a1_3] 38 (0, 0)) (by (with_reducible repeat (first | refine blk_drewN ?_ _ | refine blk_drew ?_ | refine blk_alloc ?_ _)); exact BK188.out) hb); have n2_ := Aside0.mk (blk_below (g := gb189) (o := .cells #[.int .i64 a2_0, .int .i64 a2_1, .int .i64 a2_2, .bool a2_3] 38 (0, 0)) (by (with_reducible repeat (first | refine blk_drewN ?_ _ | refine blk_drew ?_ | refine blk_alloc ?_ _)); exact BK189.out) hb); have n3_ := Aside0.mk (below_step (by repeat (first | (with_reducible first | exact HB.out | apply below_alloc | apply pw_below_drewN | apply below_drew1 | refine below_set ?_ GE187.out | refine below_set ?_ GE188.out | refine below_set ?_ GE189.out) | exact HB.out)) hb); clear BK187; clear BK188; clear BK189; clear HB; have BK187 := n0_; have BK188 := n1_; have BK189 := n2_; have HB := n3_; clear n0_ n1_ n2_ n3_; (try clear hb); (try clear hb2); (try clear hk); (try clear hi); have hcz80_0 : w79.cell? ⟨gb188, 0, none⟩ = some (.int .i64 a1_0) := (blk_cell BK188.out 0).trans rfl; have hcz80_1 : w79.cell? ⟨gb188, 1, none⟩ = some (.int .i64 a1_1) := (blk_cell BK188.out 1).trans rfl; have hcz80_2 : w79.cell? ⟨gb188, 2, none⟩ = some (.int .i64 a1_2) := (blk_cell BK188.out 2).trans rfl; have hcz80_3 : w79.cell? ⟨gb188, 3, none⟩ = some (.bool a1_3) := (blk_cell BK188.out 3).trans rfl; have hfz80_0 := blk_frozen BK188.out 0; have hfz80_1 := blk_frozen BK188.out 1; have hfz80_2 := blk_frozen BK188.out 2; have hfz80_3 := blk_frozen BK188.out 3; have hcz81_0 : w79.cell? ⟨gb187, 0, none⟩ = some (.int .i64 a0_0) := (blk_cell BK187.out 0).trans rfl; have hcz81_1 : w79.cell? ⟨gb187, 1, none⟩ = some (.int .i64 a0_1) := (blk_cell BK187.out 1).trans rfl; have hcz81_2 : w79.cell? ⟨gb187, 2, none⟩ = some (.int .i64 a0_2) := (blk_cell BK187.out 2).trans rfl; have hcz81_3 : w79.cell? ⟨gb187, 3, none⟩ = some (.bool a0_3) := (blk_cell BK187.out 3).trans rfl; have hfz81_0 := blk_frozen BK187.out 0; have hfz81_1 := blk_frozen BK187.out 1; have hfz81_2 := blk_frozen BK187.out 2; have hfz81_3 := blk_frozen BK187.out 3) | (go_at_call 30; (with_reducible refine (kakugyoref07_Less.calls a1_0 a1_1 a1_2 a1_3 a0_0 a0_1 a0_2 a0_3 t193 _ A26.out).mono ?_); rintro e w82 ⟨rfl, hb⟩; have n0_ := Aside0.mk (blk_below (g := gb187) (o := .cells #[.int .i64 a0_0, .int .i64 a0_1, .int .i64 a0_2, .bool a0_3] 38 (0, 0)) (by (with_reducible repeat (first | refine blk_drewN ?_ _ | refine blk_drew ?_ | refine blk_alloc ?_ _)); exact BK187.out) hb); have n1_ := Aside0.mk (blk_below (g := gb188) (o := .cells #[.int .i64 a1_0, .int .i64 a1_1, .int .i64 a1_2, .bool a1_3] 38 (0, 0)) (by (with_reducible repeat (first | refine blk_drewN ?_ _ | refine blk_drew ?_ | refine blk_alloc ?_ _)); exact BK188.out) hb); have n2_ := Aside0.mk (blk_below (g := gb189) (o := .cells #[.int .i64 a2_0, .int .i64 a2_1, .int .i64 a2_2, .bool a2_3] 38 (0, 0)) (by (with_reducible repeat (first | refine blk_drewN ?_ _ | refine blk_drew ?_ | refine blk_alloc ?_ _)); exact BK189.out) hb); have n3_ := Aside0.mk (below_step (by repeat (first | (with_reducible first | exact HB.out | apply below_alloc | apply pw_below_drewN | apply below_drew1 | refine below_set ?_ GE187.out | refine below_set ?_ GE188.out | refine below_set ?_ GE189.out) | exact HB.out)) hb); clear BK187; clear BK188; clear BK189; clear HB; have BK187 := n0_; have BK188 := n1_; have BK189 := n2_; have HB := n3_; clear n0_ n1_ n2_ n3_; (try clear hb); (try clear hb2); (try clear hk); (try clear hi); have hcz83_0 : w82.cell? ⟨gb187, 0, none⟩ = some (.int .i64 a0_0) := (blk_cell BK187.out 0).trans rfl; have hcz83_1 : w82.cell? ⟨gb187, 1, none⟩ = some (.int .i64 a0_1) := (blk_cell BK187.out 1).trans rfl; have hcz83_2 : w82.cell? ⟨gb187, 2, none⟩ = some (.int .i64 a0_2) := (blk_cell BK187.out 2).trans rfl; have hcz83_3 : w82.cell? ⟨gb187, 3, none⟩ = some (.bool a0_3) := (blk_cell BK187.out 3).trans rfl; have hfz83_0 := blk_frozen BK187.out 0; have hfz83_1 := blk_frozen BK187.out 1; have hfz83_2 := blk_frozen BK187.out 2; have hfz83_3 := blk_frozen BK187.out 3; have hcz84_0 : w82.cell? ⟨gb188, 0, none⟩ = some (.int .i64 a1_0) := (blk_cell BK188.out 0).trans rfl; have hcz84_1 : w82.cell? ⟨gb188, 1, none⟩ = some (.int .i64 a1_1) := (blk_cell BK188.out 1).trans rfl; have hcz84_2 : w82.cell? ⟨gb188, 2, none⟩ = some (.int .i64 a1_2) := (blk_cell BK188.out 2).trans rfl; have hcz84_3 : w82.cell? ⟨gb188, 3, none⟩ = some (.bool a1_3) := (blk_cell BK188.out 3).trans rfl; have hfz84_0 := blk_frozen BK188.out 0; have hfz84_1 := blk_frozen BK188.out 1; have hfz84_2 := blk_frozen BK188.out 2; have hfz84_3 := blk_frozen BK188.out 3) | (go_at_call 29; (with_reducible refine (move_Compare.calls a1_0 a1_1 a1_2 a1_3 a0_0 a0_1 a0_2 a0_3 t194 _ A73.out).mono ?_); rintro e w85 ⟨rfl, hb⟩; have n0_ := Aside0.mk (blk_below (g := gb187) (o := .cells #[.int .i64 a0_0, .int .i64 a0_1, .int .i64 a0_2, .bool a0_3] 38 (0, 0)) (by (with_reducible repeat (first | refine blk_drewN ?_ _ | refine blk_drew ?_ | refine blk_alloc ?_ _)); exact BK187.out) hb); have n1_ := Aside0.mk (blk_below (g := gb188) (o := .cells #[.int .i64 a1_0, .int .i64 a1_1, .int .i64 a1_2, .bool a1_3] 38 (0, 0)) (by (with_reducible repeat (first | refine blk_drewN ?_ _ | refine blk_drew ?_ | refine blk_alloc ?_ _)); exact BK188.out) hb); have n2_ := Aside0.mk (blk_below (g := gb189) (o := .cells #[.int .i64 a2_0, .int .i64 a2_1, .int .i64 a2_2, .bool a2_3] 38 (0, 0)) (by (with_reducible repeat (first | refine blk_drewN ?_ _ | refine blk_drew ?_ | refine blk_alloc ?_ _)); exact BK189.out) hb); have n3_ := Aside0.mk (below_step (by repeat (first | (with_reducible first | exact HB.out | apply below_alloc | apply pw_below_drewN | apply below_drew1 | refine below_set ?_ GE187.out | refine below_set ?_ GE188.out | refine below_set ?_ GE189.out) | exact HB.out)) hb); clear BK187; clear BK188; clear BK189; clear HB; have BK187 := n0_; have BK188 := n1_; have BK189 := n2_; have HB := n3_; clear n0_ n1_ n2_ n3_; (try clear hb); (try clear hb2); (try clear hk); (try clear hi)))
                go_meet
                case rel => exact ⟨_, ((t194 != (wrap64 (-t191)))), (by first | rfl | (simp; done) | (simp [*]; done)), H', ⟨by first | omega | exact Nat.le_refl _⟩, ⟨by (with_reducible repeat (first | refine blk_drewN ?_ _ | refine blk_drew ?_ | refine blk_alloc ?_ _)); exact BK187.out⟩, ⟨by (with_reducible repeat (first | refine blk_drewN ?_ _ | refine blk_drew ?_ | refine blk_alloc ?_ _)); exact BK188.out⟩, ⟨by (with_reducible repeat (first | refine blk_drewN ?_ _ | refine blk_drew ?_ | refine blk_alloc ?_ _)); exact BK189.out⟩, ⟨by repeat (first | (with_reducible first | exact HB.out | apply below_alloc | apply pw_below_drewN | apply below_drew1 | refine below_set ?_ GE187.out | refine below_set ?_ GE188.out | refine below_set ?_ GE189.out) | exact HB.out)⟩⟩
    case rest =>
      clear HC7
      try clear c1
      try clear c2
      try clear p2
      try clear c3
      try clear c4
      try clear c5
      try clear c6
      try clear p6
      try clear c7
      try clear c9
      try clear c12
      try clear c13
      try clear c15
      try clear c19
      try clear c19b0
      try clear c19b1
      try clear c19b2
      try clear c20
      try clear c21
      try clear c23
      try clear c27
      try clear c27b0
      try clear c27b1
      try clear c27b2
      try clear c28
      try clear c29
      try clear c30
      try clear c31
      try clear c37
      try clear c37b0
      try clear c37b1
      try clear c37b2
      try clear c38
      try clear c39
      try clear c41
      try clear c49
      try clear c49b0
      try clear c50
      try clear c51
      try clear c53
      try clear c61
      try clear c61b0
      try clear c62
      try clear c63
      try clear p64
      try clear c65
      try clear c74
      try clear c75
      try clear c77
      try clear hcz14_0
      try clear hcz14_1
      try clear hcz14_2
      try clear hcz14_3
      try clear hcz16_0
      try clear hcz16_1
      try clear hcz16_2
      try clear hcz16_3
      try clear hcz22_0
      try clear hcz22_1
      try clear hcz22_2
      try clear hcz22_3
      try clear hcz24_0
      try clear hcz24_1
      try clear hcz24_2
      try clear hcz24_3
      try clear hcz30_0
      try clear hcz30_1
      try clear hcz30_2
      try clear hcz30_3
      try clear hcz32_0
      try clear hcz32_1
      try clear hcz32_2
      try clear hcz32_3
      try clear hcz34_0
      try clear hcz34_1
      try clear hcz34_2
      try clear hcz34_3
      try clear hcz35_0
      try clear hcz35_1
      try clear hcz35_2
      try clear hcz35_3
      try clear hcz40_0
      try clear hcz40_1
      try clear hcz40_2
      try clear hcz40_3
      try clear hcz42_0
      try clear hcz42_1
      try clear hcz42_2
      try clear hcz42_3
      try clear hcz44_0
      try clear hcz44_1
      try clear hcz44_2
      try clear hcz44_3
      try clear hcz45_0
      try clear hcz45_1
      try clear hcz45_2
      try clear hcz45_3
      try clear hcz47_0
      try clear hcz47_1
      try clear hcz47_2
      try clear hcz47_3
      try clear hcz48_0
      try clear hcz48_1
      try clear hcz48_2
      try clear hcz48_3
      try clear hcz52_0
      try clear hcz52_1
      try clear hcz52_2
      try clear hcz52_3
      try clear hcz54_0
      try clear hcz54_1
      try clear hcz54_2
      try clear hcz54_3
      try clear hcz56_0
      try clear hcz56_1
      try clear hcz56_2
      try clear hcz56_3
      try clear hcz57_0
      try clear hcz57_1
      try clear hcz57_2
      try clear hcz57_3
      try clear hcz59_0
      try clear hcz59_1
      try clear hcz59_2
      try clear hcz59_3
      try clear hcz60_0
      try clear hcz60_1
      try clear hcz60_2
      try clear hcz60_3
      try clear hcz64_0
      try clear hcz64_1
      try clear hcz64_2
      try clear hcz64_3
      try clear hcz66_0
      try clear hcz66_1
      try clear hcz66_2
      try clear hcz66_3
      try clear hcz68_0
      try clear hcz68_1
      try clear hcz68_2
      try clear hcz68_3
      try clear hcz69_0
      try clear hcz69_1
      try clear hcz69_2
      try clear hcz69_3
      try clear hcz71_0
      try clear hcz71_1
      try clear hcz71_2
      try clear hcz71_3
      try clear hcz72_0
      try clear hcz72_1
      try clear hcz72_2
      try clear hcz72_3
      try clear hcz76_0
      try clear hcz76_1
      try clear hcz76_2
      try clear hcz76_3
      try clear hcz78_0
      try clear hcz78_1
      try clear hcz78_2
      try clear hcz78_3
      try clear hcz80_0
      try clear hcz80_1
      try clear hcz80_2
      try clear hcz80_3
      try clear hcz81_0
      try clear hcz81_1
      try clear hcz81_2
      try clear hcz81_3
      try clear hcz83_0
      try clear hcz83_1
      try clear hcz83_2
      try clear hcz83_3
      try clear hcz84_0
      try clear hcz84_1
      try clear hcz84_2
      try clear hcz84_3
      try clear hfz14_0
      try clear hfz14_1
      try clear hfz14_2
      try clear hfz14_3
      try clear hfz16_0
      try clear hfz16_1
      try clear hfz16_2
      try clear hfz16_3
      try clear hfz22_0
      try clear hfz22_1
      try clear hfz22_2
      try clear hfz22_3
      try clear hfz24_0
      try clear hfz24_1
      try clear hfz24_2
      try clear hfz24_3
      try clear hfz30_0
      try clear hfz30_1
      try clear hfz30_2
      try clear hfz30_3
      try clear hfz32_0
      try clear hfz32_1
      try clear hfz32_2
      try clear hfz32_3
      try clear hfz34_0
      try clear hfz34_1
      try clear hfz34_2
      try clear hfz34_3
      try clear hfz35_0
      try clear hfz35_1
      try clear hfz35_2
      try clear hfz35_3
      try clear hfz40_0
      try clear hfz40_1
      try clear hfz40_2
      try clear hfz40_3
      try clear hfz42_0
      try clear hfz42_1
      try clear hfz42_2
      try clear hfz42_3
      try clear hfz44_0
      try clear hfz44_1
      try clear hfz44_2
      try clear hfz44_3
      try clear hfz45_0
      try clear hfz45_1
      try clear hfz45_2
      try clear hfz45_3
      try clear hfz47_0
      try clear hfz47_1
      try clear hfz47_2
      try clear hfz47_3
      try clear hfz48_0
      try clear hfz48_1
      try clear hfz48_2
      try clear hfz48_3
      try clear hfz52_0
      try clear hfz52_1
      try clear hfz52_2
      try clear hfz52_3
      try clear hfz54_0
      try clear hfz54_1
      try clear hfz54_2
      try clear hfz54_3
      try clear hfz56_0
      try clear hfz56_1
      try clear hfz56_2
      try clear hfz56_3
      try clear hfz57_0
      try clear hfz57_1
      try clear hfz57_2
      try clear hfz57_3
      try clear hfz59_0
      try clear hfz59_1
      try clear hfz59_2
      try clear hfz59_3
      try clear hfz60_0
      try clear hfz60_1
      try clear hfz60_2
      try clear hfz60_3
      try clear hfz64_0
      try clear hfz64_1
      try clear hfz64_2
      try clear hfz64_3
      try clear hfz66_0
      try clear hfz66_1
      try clear hfz66_2
      try clear hfz66_3
      try clear hfz68_0
      try clear hfz68_1
      try clear hfz68_2
      try clear hfz68_3
      try clear hfz69_0
      try clear hfz69_1
      try clear hfz69_2
      try clear hfz69_3
      try clear hfz71_0
      try clear hfz71_1
      try clear hfz71_2
      try clear hfz71_3
      try clear hfz72_0
      try clear hfz72_1
      try clear hfz72_2
      try clear hfz72_3
      try clear hfz76_0
      try clear hfz76_1
      try clear hfz76_2
      try clear hfz76_3
      try clear hfz78_0
      try clear hfz78_1
      try clear hfz78_2
      try clear hfz78_3
      try clear hfz80_0
      try clear hfz80_1
      try clear hfz80_2
      try clear hfz80_3
      try clear hfz81_0
      try clear hfz81_1
      try clear hfz81_2
      try clear hfz81_3
      try clear hfz83_0
      try clear hfz83_1
      try clear hfz83_2
      try clear hfz83_3
      try clear hfz84_0
      try clear hfz84_1
      try clear hfz84_2
      try clear hfz84_3
      obtain ⟨kq, x50_6, rfl, HA, HJ6, BK187, BK188, BK189, HB⟩ := hcut
      cases kq with
      | zero => exact absurd HA.out (by simp [kakugyolaw07_MoveOrder.j0])
      | succ kj6 =>
        have H := HA.out
        clear HA
        simp only [kakugyolaw07_MoveOrder.j0] at H
        by_cases c86 : x50_6 = true
        · subst c86
          have H1 : (some false) = some r := by rw [if_pos rfl] at H; exact H
          clear H
          have H := H1
          clear H1
          obtain rfl := Option.some.inj H
          go_wp2
          go_ret
          exact ⟨by first | rfl | (simp [errW_none, errW_some] <;> rfl) | (simp [*, errW_none, errW_some] <;> rfl) | (simp [*, errW_none, errW_some]; generalize ByteArray.toList _ = q_; cases q_ <;> rfl), by repeat (first | (with_reducible first | exact HB.out | apply below_alloc | apply pw_below_drewN | apply below_drew1 | refine below_set ?_ GE187.out | refine below_set ?_ GE188.out | refine below_set ?_ GE189.out) | exact HB.out)⟩
        · replace c86 := Bool.eq_false_iff.mpr c86
          subst c86
          have H1 : (if t191 ≤ 0 then ((move_Compare.f a1_0 a1_1 a1_2 a1_3 a2_0 a2_1 a2_2 a2_3).bind fun t195 => (if t195 ≤ 0 then ((move_Compare.f a0_0 a0_1 a0_2 a0_3 a2_0 a2_1 a2_2 a2_3).bind fun t196 => (some (decide (t196 ≤ 0)))) else (some true))) else (some true)) = some r := by rw [if_neg (show ¬ (false = true) by decide)] at H; exact H
          clear H
          have H := H1
          clear H1
          by_cases c87 : t191 ≤ 0
          · rw [if_pos c87] at H
            have c87b0 : decide (t191 ≤ 0) = true := decide_eq_true c87
            clear c87
            replace H := Option.bind_eq_some_iff.mp H
            obtain ⟨t195, A880, H⟩ := H
            replace H : (if t195 ≤ 0 then ((move_Compare.f a0_0 a0_1 a0_2 a0_3 a2_0 a2_1 a2_2 a2_3).bind fun t196 => (some (decide (t196 ≤ 0)))) else (some true)) = some r := H
            have A88 := Aside0.mk A880
            clear A880
            by_cases c89 : t195 ≤ 0
            · rw [if_pos c89] at H
              have c89b0 : decide (t195 ≤ 0) = true := decide_eq_true c89
              clear c89
              replace H := Option.bind_eq_some_iff.mp H
              obtain ⟨t196, A900, H⟩ := H
              replace H : (some (decide (t196 ≤ 0))) = some r := H
              have A90 := Aside0.mk A900
              clear A900
              obtain rfl := Option.some.inj H
              have hnb91 := NB188_187.out
              have hnc91 := NB187_188.out
              have hnb92 := NB188_189.out
              have hnc92 := NB189_188.out
              have hcz93_0 : wc.cell? ⟨gb188, 0, none⟩ = some (.int .i64 a1_0) := (blk_cell BK188.out 0).trans rfl
              have hcz93_1 : wc.cell? ⟨gb188, 1, none⟩ = some (.int .i64 a1_1) := (blk_cell BK188.out 1).trans rfl
              have hcz93_2 : wc.cell? ⟨gb188, 2, none⟩ = some (.int .i64 a1_2) := (blk_cell BK188.out 2).trans rfl
              have hcz93_3 : wc.cell? ⟨gb188, 3, none⟩ = some (.bool a1_3) := (blk_cell BK188.out 3).trans rfl
              have hfz93_0 := blk_frozen BK188.out 0
              have hfz93_1 := blk_frozen BK188.out 1
              have hfz93_2 := blk_frozen BK188.out 2
              have hfz93_3 := blk_frozen BK188.out 3
              have hnb94 := NB189_187.out
              have hnc94 := NB187_189.out
              have hcz95_0 : wc.cell? ⟨gb189, 0, none⟩ = some (.int .i64 a2_0) := (blk_cell BK189.out 0).trans rfl
              have hcz95_1 : wc.cell? ⟨gb189, 1, none⟩ = some (.int .i64 a2_1) := (blk_cell BK189.out 1).trans rfl
              have hcz95_2 : wc.cell? ⟨gb189, 2, none⟩ = some (.int .i64 a2_2) := (blk_cell BK189.out 2).trans rfl
              have hcz95_3 : wc.cell? ⟨gb189, 3, none⟩ = some (.bool a2_3) := (blk_cell BK189.out 3).trans rfl
              have hfz95_0 := blk_frozen BK189.out 0
              have hfz95_1 := blk_frozen BK189.out 1
              have hfz95_2 := blk_frozen BK189.out 2
              have hfz95_3 := blk_frozen BK189.out 3
              go_wp2_with (first | (go_at_call 29; (with_reducible refine (move_Compare.calls a1_0 a1_1 a1_2 a1_3 a2_0 a2_1 a2_2 a2_3 t195 _ A88.out).mono ?_); rintro e w96 ⟨rfl, hb⟩; have n0_ := Aside0.mk (blk_below (g := gb187) (o := .cells #[.int .i64 a0_0, .int .i64 a0_1, .int .i64 a0_2, .bool a0_3] 38 (0, 0)) (by (with_reducible repeat (first | refine blk_drewN ?_ _ | refine blk_drew ?_ | refine blk_alloc ?_ _)); exact BK187.out) hb); have n1_ := Aside0.mk (blk_below (g := gb188) (o := .cells #[.int .i64 a1_0, .int .i64 a1_1, .int .i64 a1_2, .bool a1_3] 38 (0, 0)) (by (with_reducible repeat (first | refine blk_drewN ?_ _ | refine blk_drew ?_ | refine blk_alloc ?_ _)); exact BK188.out) hb); have n2_ := Aside0.mk (blk_below (g := gb189) (o := .cells #[.int .i64 a2_0, .int .i64 a2_1, .int .i64 a2_2, .bool a2_3] 38 (0, 0)) (by (with_reducible repeat (first | refine blk_drewN ?_ _ | refine blk_drew ?_ | refine blk_alloc ?_ _)); exact BK189.out) hb); have n3_ := Aside0.mk (below_step (by repeat (first | (with_reducible first | exact HB.out | apply below_alloc | apply pw_below_drewN | apply below_drew1 | refine below_set ?_ GE187.out | refine below_set ?_ GE188.out | refine below_set ?_ GE189.out) | exact HB.out)) hb); clear BK187; clear BK188; clear BK189; clear HB; have BK187 := n0_; have BK188 := n1_; have BK189 := n2_; have HB := n3_; clear n0_ n1_ n2_ n3_; (try clear hb); (try clear hb2); (try clear hk); (try clear hi); have hcz97_0 : w96.cell? ⟨gb187, 0, none⟩ = some (.int .i64 a0_0) := (blk_cell BK187.out 0).trans rfl; have hcz97_1 : w96.cell? ⟨gb187, 1, none⟩ = some (.int .i64 a0_1) := (blk_cell BK187.out 1).trans rfl; have hcz97_2 : w96.cell? ⟨gb187, 2, none⟩ = some (.int .i64 a0_2) := (blk_cell BK187.out 2).trans rfl; have hcz97_3 : w96.cell? ⟨gb187, 3, none⟩ = some (.bool a0_3) := (blk_cell BK187.out 3).trans rfl; have hfz97_0 := blk_frozen BK187.out 0; have hfz97_1 := blk_frozen BK187.out 1; have hfz97_2 := blk_frozen BK187.out 2; have hfz97_3 := blk_frozen BK187.out 3; have hcz98_0 : w96.cell? ⟨gb189, 0, none⟩ = some (.int .i64 a2_0) := (blk_cell BK189.out 0).trans rfl; have hcz98_1 : w96.cell? ⟨gb189, 1, none⟩ = some (.int .i64 a2_1) := (blk_cell BK189.out 1).trans rfl; have hcz98_2 : w96.cell? ⟨gb189, 2, none⟩ = some (.int .i64 a2_2) := (blk_cell BK189.out 2).trans rfl; have hcz98_3 : w96.cell? ⟨gb189, 3, none⟩ = some (.bool a2_3) := (blk_cell BK189.out 3).trans rfl; have hfz98_0 := blk_frozen BK189.out 0; have hfz98_1 := blk_frozen BK189.out 1; have hfz98_2 := blk_frozen BK189.out 2; have hfz98_3 := blk_frozen BK189.out 3) | (go_at_call 29; (with_reducible refine (move_Compare.calls a0_0 a0_1 a0_2 a0_3 a2_0 a2_1 a2_2 a2_3 t196 _ A90.out).mono ?_); rintro e w99 ⟨rfl, hb⟩; have n0_ := Aside0.mk (blk_below (g := gb187) (o := .cells #[.int .i64 a0_0, .int .i64 a0_1, .int .i64 a0_2, .bool a0_3] 38 (0, 0)) (by (with_reducible repeat (first | refine blk_drewN ?_ _ | refine blk_drew ?_ | refine blk_alloc ?_ _)); exact BK187.out) hb); have n1_ := Aside0.mk (blk_below (g := gb188) (o := .cells #[.int .i64 a1_0, .int .i64 a1_1, .int .i64 a1_2, .bool a1_3] 38 (0, 0)) (by (with_reducible repeat (first | refine blk_drewN ?_ _ | refine blk_drew ?_ | refine blk_alloc ?_ _)); exact BK188.out) hb); have n2_ := Aside0.mk (blk_below (g := gb189) (o := .cells #[.int .i64 a2_0, .int .i64 a2_1, .int .i64 a2_2, .bool a2_3] 38 (0, 0)) (by (with_reducible repeat (first | refine blk_drewN ?_ _ | refine blk_drew ?_ | refine blk_alloc ?_ _)); exact BK189.out) hb); have n3_ := Aside0.mk (below_step (by repeat (first | (with_reducible first | exact HB.out | apply below_alloc | apply pw_below_drewN | apply below_drew1 | refine below_set ?_ GE187.out | refine below_set ?_ GE188.out | refine below_set ?_ GE189.out) | exact HB.out)) hb); clear BK187; clear BK188; clear BK189; clear HB; have BK187 := n0_; have BK188 := n1_; have BK189 := n2_; have HB := n3_; clear n0_ n1_ n2_ n3_; (try clear hb); (try clear hb2); (try clear hk); (try clear hi)))
              go_ret
              exact ⟨by first | rfl | (simp [errW_none, errW_some] <;> rfl) | (simp [*, errW_none, errW_some] <;> rfl) | (simp [*, errW_none, errW_some]; generalize ByteArray.toList _ = q_; cases q_ <;> rfl), by repeat (first | (with_reducible first | exact HB.out | apply below_alloc | apply pw_below_drewN | apply below_drew1 | refine below_set ?_ GE187.out | refine below_set ?_ GE188.out | refine below_set ?_ GE189.out) | exact HB.out)⟩
            · rw [if_neg c89] at H
              have c89b0 : decide (t195 ≤ 0) = false := decide_eq_false c89
              clear c89
              obtain rfl := Option.some.inj H
              have hnb100 := NB188_187.out
              have hnc100 := NB187_188.out
              have hnb101 := NB188_189.out
              have hnc101 := NB189_188.out
              have hcz102_0 : wc.cell? ⟨gb188, 0, none⟩ = some (.int .i64 a1_0) := (blk_cell BK188.out 0).trans rfl
              have hcz102_1 : wc.cell? ⟨gb188, 1, none⟩ = some (.int .i64 a1_1) := (blk_cell BK188.out 1).trans rfl
              have hcz102_2 : wc.cell? ⟨gb188, 2, none⟩ = some (.int .i64 a1_2) := (blk_cell BK188.out 2).trans rfl
              have hcz102_3 : wc.cell? ⟨gb188, 3, none⟩ = some (.bool a1_3) := (blk_cell BK188.out 3).trans rfl
              have hfz102_0 := blk_frozen BK188.out 0
              have hfz102_1 := blk_frozen BK188.out 1
              have hfz102_2 := blk_frozen BK188.out 2
              have hfz102_3 := blk_frozen BK188.out 3
              have hnb103 := NB189_187.out
              have hnc103 := NB187_189.out
              have hcz104_0 : wc.cell? ⟨gb189, 0, none⟩ = some (.int .i64 a2_0) := (blk_cell BK189.out 0).trans rfl
              have hcz104_1 : wc.cell? ⟨gb189, 1, none⟩ = some (.int .i64 a2_1) := (blk_cell BK189.out 1).trans rfl
              have hcz104_2 : wc.cell? ⟨gb189, 2, none⟩ = some (.int .i64 a2_2) := (blk_cell BK189.out 2).trans rfl
              have hcz104_3 : wc.cell? ⟨gb189, 3, none⟩ = some (.bool a2_3) := (blk_cell BK189.out 3).trans rfl
              have hfz104_0 := blk_frozen BK189.out 0
              have hfz104_1 := blk_frozen BK189.out 1
              have hfz104_2 := blk_frozen BK189.out 2
              have hfz104_3 := blk_frozen BK189.out 3
              go_wp2_with (first | (go_at_call 29; (with_reducible refine (move_Compare.calls a1_0 a1_1 a1_2 a1_3 a2_0 a2_1 a2_2 a2_3 t195 _ A88.out).mono ?_); rintro e w105 ⟨rfl, hb⟩; have n0_ := Aside0.mk (blk_below (g := gb187) (o := .cells #[.int .i64 a0_0, .int .i64 a0_1, .int .i64 a0_2, .bool a0_3] 38 (0, 0)) (by (with_reducible repeat (first | refine blk_drewN ?_ _ | refine blk_drew ?_ | refine blk_alloc ?_ _)); exact BK187.out) hb); have n1_ := Aside0.mk (blk_below (g := gb188) (o := .cells #[.int .i64 a1_0, .int .i64 a1_1, .int .i64 a1_2, .bool a1_3] 38 (0, 0)) (by (with_reducible repeat (first | refine blk_drewN ?_ _ | refine blk_drew ?_ | refine blk_alloc ?_ _)); exact BK188.out) hb); have n2_ := Aside0.mk (blk_below (g := gb189) (o := .cells #[.int .i64 a2_0, .int .i64 a2_1, .int .i64 a2_2, .bool a2_3] 38 (0, 0)) (by (with_reducible repeat (first | refine blk_drewN ?_ _ | refine blk_drew ?_ | refine blk_alloc ?_ _)); exact BK189.out) hb); have n3_ := Aside0.mk (below_step (by repeat (first | (with_reducible first | exact HB.out | apply below_alloc | apply pw_below_drewN | apply below_drew1 | refine below_set ?_ GE187.out | refine below_set ?_ GE188.out | refine below_set ?_ GE189.out) | exact HB.out)) hb); clear BK187; clear BK188; clear BK189; clear HB; have BK187 := n0_; have BK188 := n1_; have BK189 := n2_; have HB := n3_; clear n0_ n1_ n2_ n3_; (try clear hb); (try clear hb2); (try clear hk); (try clear hi)))
              go_ret
              exact ⟨by first | rfl | (simp [errW_none, errW_some] <;> rfl) | (simp [*, errW_none, errW_some] <;> rfl) | (simp [*, errW_none, errW_some]; generalize ByteArray.toList _ = q_; cases q_ <;> rfl), by repeat (first | (with_reducible first | exact HB.out | apply below_alloc | apply pw_below_drewN | apply below_drew1 | refine below_set ?_ GE187.out | refine below_set ?_ GE188.out | refine below_set ?_ GE189.out) | exact HB.out)⟩
          · rw [if_neg c87] at H
            have c87b0 : decide (t191 ≤ 0) = false := decide_eq_false c87
            clear c87
            obtain rfl := Option.some.inj H
            go_wp2
            go_ret
            exact ⟨by first | rfl | (simp [errW_none, errW_some] <;> rfl) | (simp [*, errW_none, errW_some] <;> rfl) | (simp [*, errW_none, errW_some]; generalize ByteArray.toList _ = q_; cases q_ <;> rfl), by repeat (first | (with_reducible first | exact HB.out | apply below_alloc | apply pw_below_drewN | apply below_drew1 | refine below_set ?_ GE187.out | refine below_set ?_ GE188.out | refine below_set ?_ GE189.out) | exact HB.out)⟩
  · replace c5 := Bool.eq_false_iff.mpr c5
    subst c5
    have H1 : (some false) = some r := by rw [if_neg (show ¬ (false = true) by decide)] at H; exact H
    clear H
    have H := H1
    clear H1
    obtain rfl := Option.some.inj H
    go_enter Try.func9, Try.ntmps9
    go_wp2_with (first | ((with_reducible refine gate_dst (N := 3) rfl ?_); refine box_event ?hg (N := 3) ?hd (cs := #[.int .i64 a0_0, .int .i64 a0_1, .int .i64 a0_2, .bool a0_3]) (t := 38) ?hr ?_; (case hd => rfl); (case hg => rfl); (case hr => first | (go_simp; done) | (go_simp; rfl)); intro gb187 hg w106 hbox hb; have n0_ := Aside0.mk (below_step (by repeat (first | (with_reducible first | exact HB.out | apply below_alloc | apply pw_below_drewN | apply below_drew1) | exact HB.out)) hb); have n1_ := Aside0.mk (hbox); have n2_ := Aside0.mk ((by rw [hg]; exact (below_size (by repeat (first | (with_reducible first | exact HB.out | apply below_alloc | apply pw_below_drewN | apply below_drew1) | exact HB.out))) : w.heap.size ≤ gb187)); have n3_ := Aside0.mk ((by rw [hg]; exact (below_size (by repeat (first | (with_reducible first | exact HB.out | apply below_alloc | apply pw_below_drewN | apply below_drew1) | exact HB.out))) : w.heap.size ≤ gb187)); clear HB; have HB := n0_; have BK187 := n1_; have GW187 := n2_; have GE187 := n3_; clear n0_ n1_ n2_ n3_; clear hb hbox hg) | ((with_reducible refine gate_dst (N := 4) rfl ?_); refine box_event ?hg (N := 4) ?hd (cs := #[.int .i64 a1_0, .int .i64 a1_1, .int .i64 a1_2, .bool a1_3]) (t := 38) ?hr ?_; (case hd => rfl); (case hg => rfl); (case hr => first | (go_simp; done) | (go_simp; rfl)); intro gb188 hg w107 hbox hb; have n0_ := Aside0.mk (blk_below (g := gb187) (o := .cells #[.int .i64 a0_0, .int .i64 a0_1, .int .i64 a0_2, .bool a0_3] 38 (0, 0)) (by (with_reducible repeat (first | refine blk_drewN ?_ _ | refine blk_drew ?_ | refine blk_alloc ?_ _)); exact BK187.out) hb); have n1_ := Aside0.mk (below_step (by repeat (first | (with_reducible first | exact HB.out | apply below_alloc | apply pw_below_drewN | apply below_drew1 | refine below_set ?_ GE187.out) | exact HB.out)) hb); have n2_ := Aside0.mk (hbox); have n3_ := Aside0.mk ((by rw [hg]; exact (below_size (by repeat (first | (with_reducible first | exact HB.out | apply below_alloc | apply pw_below_drewN | apply below_drew1 | refine below_set ?_ GE187.out) | exact HB.out))) : w.heap.size ≤ gb188)); have n4_ := Aside0.mk ((by rw [hg]; exact (below_size (by repeat (first | (with_reducible first | exact HB.out | apply below_alloc | apply pw_below_drewN | apply below_drew1 | refine below_set ?_ GE187.out) | exact HB.out))) : w.heap.size ≤ gb188)); have n5_ := Aside0.mk ((by rw [hg]; exact Nat.ne_of_lt (blk_lt (g := gb187) (o := .cells #[.int .i64 a0_0, .int .i64 a0_1, .int .i64 a0_2, .bool a0_3] 38 (0, 0)) (by (with_reducible repeat (first | refine blk_drewN ?_ _ | refine blk_drew ?_ | refine blk_alloc ?_ _)); exact BK187.out)) : gb187 ≠ gb188)); have n6_ := Aside0.mk ((by rw [hg]; exact Nat.ne_of_gt (blk_lt (g := gb187) (o := .cells #[.int .i64 a0_0, .int .i64 a0_1, .int .i64 a0_2, .bool a0_3] 38 (0, 0)) (by (with_reducible repeat (first | refine blk_drewN ?_ _ | refine blk_drew ?_ | refine blk_alloc ?_ _)); exact BK187.out)) : gb188 ≠ gb187)); clear BK187; clear HB; have BK187 := n0_; have HB := n1_; have BK188 := n2_; have GW188 := n3_; have GE188 := n4_; have NB187_188 := n5_; have NB188_187 := n6_; clear n0_ n1_ n2_ n3_ n4_ n5_ n6_; clear hb hbox hg) | ((with_reducible refine gate_dst (N := 5) rfl ?_); refine box_event ?hg (N := 5) ?hd (cs := #[.int .i64 a2_0, .int .i64 a2_1, .int .i64 a2_2, .bool a2_3]) (t := 38) ?hr ?_; (case hd => rfl); (case hg => rfl); (case hr => first | (go_simp; done) | (go_simp; rfl)); intro gb189 hg w108 hbox hb; have n0_ := Aside0.mk (blk_below (g := gb187) (o := .cells #[.int .i64 a0_0, .int .i64 a0_1, .int .i64 a0_2, .bool a0_3] 38 (0, 0)) (by (with_reducible repeat (first | refine blk_drewN ?_ _ | refine blk_drew ?_ | refine blk_alloc ?_ _)); exact BK187.out) hb); have n1_ := Aside0.mk (blk_below (g := gb188) (o := .cells #[.int .i64 a1_0, .int .i64 a1_1, .int .i64 a1_2, .bool a1_3] 38 (0, 0)) (by (with_reducible repeat (first | refine blk_drewN ?_ _ | refine blk_drew ?_ | refine blk_alloc ?_ _)); exact BK188.out) hb); have n2_ := Aside0.mk (below_step (by repeat (first | (with_reducible first | exact HB.out | apply below_alloc | apply pw_below_drewN | apply below_drew1 | refine below_set ?_ GE187.out | refine below_set ?_ GE188.out) | exact HB.out)) hb); have n3_ := Aside0.mk (hbox); have n4_ := Aside0.mk ((by rw [hg]; exact (below_size (by repeat (first | (with_reducible first | exact HB.out | apply below_alloc | apply pw_below_drewN | apply below_drew1 | refine below_set ?_ GE187.out | refine below_set ?_ GE188.out) | exact HB.out))) : w.heap.size ≤ gb189)); have n5_ := Aside0.mk ((by rw [hg]; exact (below_size (by repeat (first | (with_reducible first | exact HB.out | apply below_alloc | apply pw_below_drewN | apply below_drew1 | refine below_set ?_ GE187.out | refine below_set ?_ GE188.out) | exact HB.out))) : w.heap.size ≤ gb189)); have n6_ := Aside0.mk ((by rw [hg]; exact Nat.ne_of_lt (blk_lt (g := gb187) (o := .cells #[.int .i64 a0_0, .int .i64 a0_1, .int .i64 a0_2, .bool a0_3] 38 (0, 0)) (by (with_reducible repeat (first | refine blk_drewN ?_ _ | refine blk_drew ?_ | refine blk_alloc ?_ _)); exact BK187.out)) : gb187 ≠ gb189)); have n7_ := Aside0.mk ((by rw [hg]; exact Nat.ne_of_gt (blk_lt (g := gb187) (o := .cells #[.int .i64 a0_0, .int .i64 a0_1, .int .i64 a0_2, .bool a0_3] 38 (0, 0)) (by (with_reducible repeat (first | refine blk_drewN ?_ _ | refine blk_drew ?_ | refine blk_alloc ?_ _)); exact BK187.out)) : gb189 ≠ gb187)); have n8_ := Aside0.mk ((by rw [hg]; exact Nat.ne_of_lt (blk_lt (g := gb188) (o := .cells #[.int .i64 a1_0, .int .i64 a1_1, .int .i64 a1_2, .bool a1_3] 38 (0, 0)) (by (with_reducible repeat (first | refine blk_drewN ?_ _ | refine blk_drew ?_ | refine blk_alloc ?_ _)); exact BK188.out)) : gb188 ≠ gb189)); have n9_ := Aside0.mk ((by rw [hg]; exact Nat.ne_of_gt (blk_lt (g := gb188) (o := .cells #[.int .i64 a1_0, .int .i64 a1_1, .int .i64 a1_2, .bool a1_3] 38 (0, 0)) (by (with_reducible repeat (first | refine blk_drewN ?_ _ | refine blk_drew ?_ | refine blk_alloc ?_ _)); exact BK188.out)) : gb189 ≠ gb188)); clear BK187; clear BK188; clear HB; have BK187 := n0_; have BK188 := n1_; have HB := n2_; have BK189 := n3_; have GW189 := n4_; have GE189 := n5_; have NB187_189 := n6_; have NB189_187 := n7_; have NB188_189 := n8_; have NB189_188 := n9_; clear n0_ n1_ n2_ n3_ n4_ n5_ n6_ n7_ n8_ n9_; clear hb hbox hg) | ((with_reducible refine gate_callee (f := 20) rfl ?_); refine goesL_ (some 8) rfl rfl Try.func20 (by kernel_rfl) rfl #[] rfl (by (try simp only [List.map_toArray, List.map_cons, List.map_nil]); first | done | rfl | (simp only [List.length_drop, List.length_take]; rfl)) ?_; (with_reducible refine (kakugyolaw07_names.calls k  false _ A4.out).mono ?_); rintro e w109 ⟨rfl, hb⟩; refine ⟨_, rfl, ?_⟩; have n0_ := Aside0.mk (blk_below (g := gb187) (o := .cells #[.int .i64 a0_0, .int .i64 a0_1, .int .i64 a0_2, .bool a0_3] 38 (0, 0)) (by (with_reducible repeat (first | refine blk_drewN ?_ _ | refine blk_drew ?_ | refine blk_alloc ?_ _)); exact BK187.out) hb); have n1_ := Aside0.mk (blk_below (g := gb188) (o := .cells #[.int .i64 a1_0, .int .i64 a1_1, .int .i64 a1_2, .bool a1_3] 38 (0, 0)) (by (with_reducible repeat (first | refine blk_drewN ?_ _ | refine blk_drew ?_ | refine blk_alloc ?_ _)); exact BK188.out) hb); have n2_ := Aside0.mk (blk_below (g := gb189) (o := .cells #[.int .i64 a2_0, .int .i64 a2_1, .int .i64 a2_2, .bool a2_3] 38 (0, 0)) (by (with_reducible repeat (first | refine blk_drewN ?_ _ | refine blk_drew ?_ | refine blk_alloc ?_ _)); exact BK189.out) hb); have n3_ := Aside0.mk (below_step (by repeat (first | (with_reducible first | exact HB.out | apply below_alloc | apply pw_below_drewN | apply below_drew1 | refine below_set ?_ GE187.out | refine below_set ?_ GE188.out | refine below_set ?_ GE189.out) | exact HB.out)) hb); clear BK187; clear BK188; clear BK189; clear HB; have BK187 := n0_; have BK188 := n1_; have BK189 := n2_; have HB := n3_; clear n0_ n1_ n2_ n3_; (try clear hb); (try clear hb2); (try clear hk); (try clear hi)))
    go_ret
    exact ⟨by first | rfl | (simp [errW_none, errW_some] <;> rfl) | (simp [*, errW_none, errW_some] <;> rfl) | (simp [*, errW_none, errW_some]; generalize ByteArray.toList _ = q_; cases q_ <;> rfl), by repeat (first | (with_reducible first | exact HB.out | apply below_alloc | apply pw_below_drewN | apply below_drew1 | refine below_set ?_ GE187.out | refine below_set ?_ GE188.out | refine below_set ?_ GE189.out) | exact HB.out)⟩

/-- THE ONE PURE STATEMENT of kakugyolaw07_MoveOrder: yours. -/
def kakugyolaw07_MoveOrder.Pure : Prop := ∀ (a0_0 : Int) (a0_1 : Int) (a0_2 : Int) (a0_3 : Bool) (a1_0 : Int) (a1_1 : Int) (a1_2 : Int) (a1_3 : Bool) (a2_0 : Int) (a2_1 : Int) (a2_2 : Int) (a2_3 : Bool), (Lit.int .i64 a0_0).wf = true → (Lit.int .i64 a0_1).wf = true → (Lit.int .i64 a0_2).wf = true → (Lit.int .i64 a1_0).wf = true → (Lit.int .i64 a1_1).wf = true → (Lit.int .i64 a1_2).wf = true → (Lit.int .i64 a2_0).wf = true → (Lit.int .i64 a2_1).wf = true → (Lit.int .i64 a2_2).wf = true → ∃ k, kakugyolaw07_MoveOrder.f k a0_0 a0_1 a0_2 a0_3 a1_0 a1_1 a1_2 a1_3 a2_0 a2_1 a2_2 a2_3 = some true
theorem kakugyolaw07_MoveOrder.walk (P : kakugyolaw07_MoveOrder.Pure) (a0_0 : Int) (a0_1 : Int) (a0_2 : Int) (a0_3 : Bool) (a1_0 : Int) (a1_1 : Int) (a1_2 : Int) (a1_3 : Bool) (a2_0 : Int) (a2_1 : Int) (a2_2 : Int) (a2_3 : Bool) (w : World) (w0_0 : (Lit.int .i64 a0_0).wf = true) (w0_1 : (Lit.int .i64 a0_1).wf = true) (w0_2 : (Lit.int .i64 a0_2).wf = true) (w1_0 : (Lit.int .i64 a1_0).wf = true) (w1_1 : (Lit.int .i64 a1_1).wf = true) (w1_2 : (Lit.int .i64 a1_2).wf = true) (w2_0 : (Lit.int .i64 a2_0).wf = true) (w2_1 : (Lit.int .i64 a2_1).wf = true) (w2_2 : (Lit.int .i64 a2_2).wf = true) :
    Calls Try.prog 9 #[.agg #[.int .i64 a0_0, .int .i64 a0_1, .int .i64 a0_2, .bool a0_3], .agg #[.int .i64 a1_0, .int .i64 a1_1, .int .i64 a1_2, .bool a1_3], .agg #[.int .i64 a2_0, .int .i64 a2_1, .int .i64 a2_2, .bool a2_3]] w fun e w' => e = .returned (.bool true) ∧ Below w.heap.size w w' := by
  obtain ⟨k, h⟩ := P a0_0 a0_1 a0_2 a0_3 a1_0 a1_1 a1_2 a1_3 a2_0 a2_1 a2_2 a2_3 w0_0 w0_1 w0_2 w1_0 w1_1 w1_2 w2_0 w2_1 w2_2
  refine (kakugyolaw07_MoveOrder.calls k a0_0 a0_1 a0_2 a0_3 a1_0 a1_1 a1_2 a1_3 a2_0 a2_1 a2_2 a2_3 true w h).mono ?_
  rintro e w' ⟨rfl, hd⟩
  exact ⟨rfl, hd⟩

end Go.Proofs.Ytmoeodcmfjnihab.Pa
