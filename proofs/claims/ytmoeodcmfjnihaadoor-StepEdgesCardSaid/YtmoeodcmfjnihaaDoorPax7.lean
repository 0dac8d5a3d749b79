-- Printed by a program of this session: the kit's printer, with contracts of this session's own among its functions.
import Derived.Test.YtmoeodcmfjnihaaDoorPax0
import Derived.Test.YtmoeodcmfjnihaaDoorPax2
import Derived.Test.YtmoeodcmfjnihaaDoorPax5
import Derived.Test.YtmoeodcmfjnihaaDoorPax6
namespace Go.Proofs.YtmoeodcmfjnihaaDoor.Pa
open Go.RowKit Go.Proofs.YtmoeodcmfjnihaaDoorW.PrintWords Go.Proofs.YtmoeodcmfjnihaaDoorW.PrintLast Go.Proofs.YtmoeodcmfjnihaaDoorW.PrintMore
attribute [local go_sem] max2_int min2_int max_two min_two max_three min_three max_four min_four   -- for this text's walks alone
set_option linter.unusedVariables false
set_option linter.unusedSimpArgs false

/-! ### kakugyolaw03_StepEdges: function 6 -/
mutual
def kakugyolaw03_StepEdges.j0 : Nat → Int → Bool → Int → Int → Option (Bool)
  | 0, _, _, _, _ => none
  | k + 1, x1, x20, x298000, x298001 => if x20 = true then ((set_Set_Empty.f x298000 x298001).bind fun t298 => (some t298)) else ((set_Set_Squares.f k x298000 x298001).bind fun t299 => (kakugyolaw03_StepEdges.l0 k x1 t299 (t299.length : Int) 0 x298000 x298001))
def kakugyolaw03_StepEdges.l0 : Nat → Int → List Int → Int → Int → Int → Int → Option (Bool)
  | 0, _, _, _, _, _, _ => none
  | k + 1, x1, x24, x25, x26, x298000, x298001 => if x26 < x25 then (if 0 ≤ x26 then (if x26 < (x24.length : Int) then ((set_File.f (rd x24 x26)).bind fun t304 => ((set_File.f x1).bind fun t305 => ((set_Rank.f (rd x24 x26)).bind fun t306 => ((set_Rank.f x1).bind fun t307 => (if (wrap64 (t304 - t305)) < (-1) then (some false) else (if (wrap64 (t304 - t305)) > 1 then (some false) else (if (wrap64 (t306 - t307)) < (-2) then (some false) else (if (wrap64 (t306 - t307)) > 2 then (some false) else (if (rd x24 x26) = x1 then (some false) else (kakugyolaw03_StepEdges.l0 k x1 x24 x25 (wrap64 (x26 + 1)) x298000 x298001)))))))))) else (none)) else (none)) else ((set_Set_Count.f x298000 x298001).bind fun t302 => (some (decide (t302 ≤ 8))))
end
def kakugyolaw03_StepEdges.f (k : Nat) (a0 : Int) (a1 : Int) : Option (Bool) := (kakugyolaw03_steps.f k).bind fun t294 => (if t294 = true then ((step_Of.f k a0 a1).bind fun bt295 => (if a1 < 0 then (kakugyolaw03_StepEdges.j0 k a1 true bt295.1 bt295.2) else (kakugyolaw03_StepEdges.j0 k a1 (decide (a1 > 80)) bt295.1 bt295.2))) else (some false))
theorem kakugyolaw03_StepEdges.mono_l : ∀ k, (∀ y0 y1 y2 y3, LeO (kakugyolaw03_StepEdges.j0 k y0 y1 y2 y3) (kakugyolaw03_StepEdges.j0 (k + 1) y0 y1 y2 y3)) ∧ (∀ y0 y1 y2 y3 y4 y5, LeO (kakugyolaw03_StepEdges.l0 k y0 y1 y2 y3 y4 y5) (kakugyolaw03_StepEdges.l0 (k + 1) y0 y1 y2 y3 y4 y5))
  | 0 => ⟨fun _ _ _ _ r h => by simp [kakugyolaw03_StepEdges.j0] at h, fun _ _ _ _ _ _ r h => by simp [kakugyolaw03_StepEdges.l0] at h⟩
  | k + 1 => by
    obtain ⟨ih0, ih1⟩ := kakugyolaw03_StepEdges.mono_l k
    refine ⟨?_, ?_⟩
    · intro y0 y1 y2 y3
      unfold kakugyolaw03_StepEdges.j0
      repeat' first
      | (with_reducible exact ih0 _ _ _ _)
      | (with_reducible exact ih1 _ _ _ _ _ _)
      | (with_reducible exact kakugyolaw03_steps.mono _)
      | (with_reducible exact set_Set_Squares.mono _ _ _)
      | (with_reducible exact step_Of.mono _ _ _)
      | (with_reducible exact LeO.refl _)
      | (with_reducible exact LeO.none _)
      | (with_reducible refine LeO.ite ?_ ?_)
      | (with_reducible refine LeO.bind ?_ (fun _ => ?_))
      | exact ih0 _ _ _ _
      | exact ih1 _ _ _ _ _ _
      | exact kakugyolaw03_steps.mono _
      | exact set_Set_Squares.mono _ _ _
      | exact step_Of.mono _ _ _
      | exact LeO.none _
      | refine LeO.ite ?_ ?_
      | refine LeO.bind ?_ (fun _ => ?_)
    · intro y0 y1 y2 y3 y4 y5
      unfold kakugyolaw03_StepEdges.l0
      repeat' first
      | (with_reducible exact ih0 _ _ _ _)
      | (with_reducible exact ih1 _ _ _ _ _ _)
      | (with_reducible exact kakugyolaw03_steps.mono _)
      | (with_reducible exact set_Set_Squares.mono _ _ _)
      | (with_reducible exact step_Of.mono _ _ _)
      | (with_reducible exact LeO.refl _)
      | (with_reducible exact LeO.none _)
      | (with_reducible refine LeO.ite ?_ ?_)
      | (with_reducible refine LeO.bind ?_ (fun _ => ?_))
      | exact ih0 _ _ _ _
      | exact ih1 _ _ _ _ _ _
      | exact kakugyolaw03_steps.mono _
      | exact set_Set_Squares.mono _ _ _
      | exact step_Of.mono _ _ _
      | exact LeO.none _
      | refine LeO.ite ?_ ?_
      | refine LeO.bind ?_ (fun _ => ?_)
theorem kakugyolaw03_StepEdges.mono : ∀ a0 a1 k, LeO (kakugyolaw03_StepEdges.f k a0 a1) (kakugyolaw03_StepEdges.f (k + 1) a0 a1) := by
  intro a0 a1 k
  obtain ⟨ih0, ih1⟩ := kakugyolaw03_StepEdges.mono_l k
  unfold kakugyolaw03_StepEdges.f
  repeat' first
      | (with_reducible exact ih0 _ _ _ _)
      | (with_reducible exact ih1 _ _ _ _ _ _)
      | (with_reducible exact kakugyolaw03_steps.mono _)
      | (with_reducible exact set_Set_Squares.mono _ _ _)
      | (with_reducible exact step_Of.mono _ _ _)
      | (with_reducible exact LeO.refl _)
      | (with_reducible exact LeO.none _)
      | (with_reducible refine LeO.ite ?_ ?_)
      | (with_reducible refine LeO.bind ?_ (fun _ => ?_))
      | exact ih0 _ _ _ _
      | exact ih1 _ _ _ _ _ _
      | exact kakugyolaw03_steps.mono _
      | exact set_Set_Squares.mono _ _ _
      | exact step_Of.mono _ _ _
      | exact LeO.none _
      | refine LeO.ite ?_ ?_
      | refine LeO.bind ?_ (fun _ => ?_)
set_option maxHeartbeats 8000000 in
set_option maxRecDepth 100000 in
theorem kakugyolaw03_StepEdges.calls (k : Nat) (a0 : Int) (a1 : Int) (r : Bool) (w : World) (hT : bits_TrailingZeros64.Tab w) (h : kakugyolaw03_StepEdges.f k a0 a1 = some r) :
    Calls Tryd.prog 6 #[.int .i8 a0, .int .i64 a1] w fun e w' => e = .returned (.bool r) ∧ Below w.heap.size w w' := by
  have hu26 := Tryd.underlying26
  have HB := Aside0.mk (Below.refl w.heap.size w)
  have H : ((kakugyolaw03_steps.f k).bind fun t294 => (if t294 = true then ((step_Of.f k a0 a1).bind fun bt295 => (if a1 < 0 then (kakugyolaw03_StepEdges.j0 k a1 true bt295.1 bt295.2) else (kakugyolaw03_StepEdges.j0 k a1 (decide (a1 > 80)) bt295.1 bt295.2))) else (some false))) = some r := h
  clear h
  replace H := Option.bind_eq_some_iff.mp H
  obtain ⟨t294, A30, H⟩ := H
  replace H : (if t294 = true then ((step_Of.f k a0 a1).bind fun bt295 => (if a1 < 0 then (kakugyolaw03_StepEdges.j0 k a1 true bt295.1 bt295.2) else (kakugyolaw03_StepEdges.j0 k a1 (decide (a1 > 80)) bt295.1 bt295.2))) else (some false)) = some r := H
  have A3 := Aside0.mk A30
  clear A30
  by_cases c4 : t294 = true
  · subst c4
    have H1 : ((step_Of.f k a0 a1).bind fun bt295 => (if a1 < 0 then (kakugyolaw03_StepEdges.j0 k a1 true bt295.1 bt295.2) else (kakugyolaw03_StepEdges.j0 k a1 (decide (a1 > 80)) bt295.1 bt295.2))) = some r := by rw [if_pos rfl] at H; exact H
    clear H
    have H := H1
    clear H1
    replace H := Option.bind_eq_some_iff.mp H
    obtain ⟨⟨t295, t296⟩, A50, H⟩ := H
    replace H : (if a1 < 0 then (kakugyolaw03_StepEdges.j0 k a1 true t295 t296) else (kakugyolaw03_StepEdges.j0 k a1 (decide (a1 > 80)) t295 t296)) = some r := H
    have A5 := Aside0.mk A50
    clear A50
    have HC6 := Aside0.mk H
    clear H
    go_enter Tryd.func6, Tryd.ntmps6
    go_upto_region 4 with (first | ((with_reducible refine gate_callee (f := 23) rfl ?_); refine goesL_ (some 10) rfl rfl Tryd.func23 (by kernel_rfl) rfl #[] rfl (by (try simp only [List.map_toArray, List.map_cons, List.map_nil]); first | done | rfl | (simp only [List.length_drop, List.length_take]; rfl)) ?_; (with_reducible refine (kakugyolaw03_steps.calls k  true _ A3.out).mono ?_); rintro e w7 ⟨rfl, hb⟩; refine ⟨_, rfl, ?_⟩; have n0_ := Aside0.mk (below_step (by repeat (first | (with_reducible first | exact HB.out | apply below_alloc | apply pw_below_drewN | apply below_drew1) | exact HB.out)) hb); clear HB; have HB := n0_; clear n0_; (try clear hb); (try clear hb2); (try clear hk); (try clear hi)) | ((with_reducible refine gate_callee (f := 24) rfl ?_); refine goesL_ (some 14) rfl rfl Tryd.func24 (by kernel_rfl) rfl #[.int .i8 a0, .int .i64 a1] rfl (by (try simp only [List.map_toArray, List.map_cons, List.map_nil]); first | done | rfl | (simp only [List.length_drop, List.length_take]; rfl)) ?_; (with_reducible refine (step_Of.calls k a0 a1 t295 t296 _ A5.out).mono ?_); rintro e w8 ⟨rfl, hb⟩; refine ⟨_, rfl, ?_⟩; have n0_ := Aside0.mk (below_step (by repeat (first | (with_reducible first | exact HB.out | apply below_alloc | apply pw_below_drewN | apply below_drew1) | exact HB.out)) hb); clear HB; have HB := n0_; clear n0_; (try clear hb); (try clear hb2); (try clear hk); (try clear hi)) | ((with_reducible refine gate_dst (N := 5) rfl ?_); refine box_event ?hg (N := 5) ?hd (cs := #[.int .u64 0, .int .u64 0]) (t := 26) ?hr ?_; (case hd => rfl); (case hg => rfl); (case hr => first | (go_simp; done) | (go_simp; rfl)); intro gb297 hg w9 hbox hb; have n0_ := Aside0.mk (below_step (by repeat (first | (with_reducible first | exact HB.out | apply below_alloc | apply pw_below_drewN | apply below_drew1) | exact HB.out)) hb); have n1_ := Aside0.mk (hbox); have n2_ := Aside0.mk ((by rw [hg]; exact (below_size (by repeat (first | (with_reducible first | exact HB.out | apply below_alloc | apply pw_below_drewN | apply below_drew1) | exact HB.out))) : w.heap.size ≤ gb297)); have n3_ := Aside0.mk ((by rw [hg]; exact (below_size (by repeat (first | (with_reducible first | exact HB.out | apply below_alloc | apply pw_below_drewN | apply below_drew1) | exact HB.out))) : w.heap.size ≤ gb297)); clear HB; have HB := n0_; have BK297 := n1_; have GW297 := n2_; have GE297 := n3_; clear n0_ n1_ n2_ n3_; clear hb hbox hg; have hcz10_0 : w9.cell? ⟨gb297, 0, none⟩ = some (.int .u64 0) := (blk_cell BK297.out 0).trans rfl; have hcz10_1 : w9.cell? ⟨gb297, 1, none⟩ = some (.int .u64 0) := (blk_cell BK297.out 1).trans rfl; have hfz10_0 := blk_frozen BK297.out 0; have hfz10_1 := blk_frozen BK297.out 1))
    (try simp only [Act.put, List.setIfInBounds_toArray, List.set_cons_zero, List.set_cons_succ])
    go_cut [20] (fun v20 wc => ∃ (kq : Nat) (x20_5 : Bool), v20 = .bool x20_5 ∧ Aside0 (kakugyolaw03_StepEdges.j0 kq a1 x20_5 t295 t296 = some r) ∧ Aside0 (kq ≤ k) ∧ Aside0 (wc.heap[gb297]? = some (.cells #[.int .u64 t295, .int .u64 t296] 26 (0, 0))) ∧ Aside0 (Below w.heap.size w wc))
    case first =>
      have H := HC6.out
      clear HC6
      by_cases c11 : a1 < 0
      · rw [if_pos c11] at H
        have c11b0 : decide (a1 < 0) = true := decide_eq_true c11
        clear c11
        (first | rw [c11b0] | (simp only [i64_w, i32_w]; rw [c11b0]) | skip)
        have H' := Aside0.mk H
        clear H
        go_wp2
        go_meet
        case rel => exact ⟨_, (true), (by first | rfl | (simp; done) | (simp [*]; done)), H', ⟨by first | omega | exact Nat.le_refl _⟩, ⟨by (with_reducible repeat (first | refine blk_drewN ?_ _ | refine blk_drew ?_ | refine blk_alloc ?_ _)); refine blk_put (cs := #[.int .u64 t295, .int .u64 0]) ?_ 1 _ (by first | rfl | (simp [*]; done)); (with_reducible repeat (first | refine blk_drewN ?_ _ | refine blk_drew ?_ | refine blk_alloc ?_ _)); refine blk_put (cs := #[.int .u64 0, .int .u64 0]) ?_ 0 _ (by first | rfl | (simp [*]; done)); (with_reducible repeat (first | refine blk_drewN ?_ _ | refine blk_drew ?_ | refine blk_alloc ?_ _)); exact BK297.out⟩, ⟨by repeat (first | (with_reducible first | exact HB.out | apply below_alloc | apply pw_below_drewN | apply below_drew1 | refine below_set ?_ GE297.out) | exact HB.out)⟩⟩
      · rw [if_neg c11] at H
        have c11b0 : decide (a1 < 0) = false := decide_eq_false c11
        clear c11
        (first | rw [c11b0] | (simp only [i64_w, i32_w]; rw [c11b0]) | skip)
        have H' := Aside0.mk H
        clear H
        go_wp2
        go_meet
        case rel => exact ⟨_, (decide (a1 > 80)), (by first | rfl | (simp; done) | (simp [*]; done)), H', ⟨by first | omega | exact Nat.le_refl _⟩, ⟨by (with_reducible repeat (first | refine blk_drewN ?_ _ | refine blk_drew ?_ | refine blk_alloc ?_ _)); refine blk_put (cs := #[.int .u64 t295, .int .u64 0]) ?_ 1 _ (by first | rfl | (simp [*]; done)); (with_reducible repeat (first | refine blk_drewN ?_ _ | refine blk_drew ?_ | refine blk_alloc ?_ _)); refine blk_put (cs := #[.int .u64 0, .int .u64 0]) ?_ 0 _ (by first | rfl | (simp [*]; done)); (with_reducible repeat (first | refine blk_drewN ?_ _ | refine blk_drew ?_ | refine blk_alloc ?_ _)); exact BK297.out⟩, ⟨by repeat (first | (with_reducible first | exact HB.out | apply below_alloc | apply pw_below_drewN | apply below_drew1 | refine below_set ?_ GE297.out) | exact HB.out)⟩⟩
    case rest =>
      clear HC6
      try clear c1
      try clear c2
      try clear p2
      try clear c4
      try clear c6
      try clear c11
      try clear c11b0
      try clear hcz10_0
      try clear hcz10_1
      try clear hfz10_0
      try clear hfz10_1
      obtain ⟨kq, x20_5, rfl, HA, HJ5, BK297, HB⟩ := hcut
      cases kq with
      | zero => exact absurd HA.out (by simp [kakugyolaw03_StepEdges.j0])
      | succ kj5 =>
        have H := HA.out
        clear HA
        simp only [kakugyolaw03_StepEdges.j0] at H
        by_cases c12 : x20_5 = true
        · subst c12
          have H1 : ((set_Set_Empty.f t295 t296).bind fun t298 => (some t298)) = some r := by rw [if_pos rfl] at H; exact H
          clear H
          have H := H1
          clear H1
          replace H := Option.bind_eq_some_iff.mp H
          obtain ⟨t298, A130, H⟩ := H
          replace H : (some t298) = some r := H
          have A13 := Aside0.mk A130
          clear A130
          obtain rfl := Option.some.inj H
          have hcz14_0 : wc.cell? ⟨gb297, 0, none⟩ = some (.int .u64 t295) := (blk_cell BK297.out 0).trans rfl
          have hcz14_1 : wc.cell? ⟨gb297, 1, none⟩ = some (.int .u64 t296) := (blk_cell BK297.out 1).trans rfl
          have hfz14_0 := blk_frozen BK297.out 0
          have hfz14_1 := blk_frozen BK297.out 1
          go_wp2_with (first | ((with_reducible refine gate_callee (f := 14) rfl ?_); refine goesL_ (some 22) rfl rfl Tryd.func14 (by kernel_rfl) rfl #[.agg #[.int .u64 t295, .int .u64 t296]] rfl (by (try simp only [List.map_toArray, List.map_cons, List.map_nil]); first | done | rfl | (simp only [List.length_drop, List.length_take]; rfl)) ?_; (with_reducible refine (set_Set_Empty.calls t295 t296 t298 _ A13.out).mono ?_); rintro e w15 ⟨rfl, hb⟩; refine ⟨_, rfl, ?_⟩; have n0_ := Aside0.mk (blk_below (g := gb297) (o := .cells #[.int .u64 t295, .int .u64 t296] 26 (0, 0)) (by (with_reducible repeat (first | refine blk_drewN ?_ _ | refine blk_drew ?_ | refine blk_alloc ?_ _)); exact BK297.out) hb); have n1_ := Aside0.mk (below_step (by repeat (first | (with_reducible first | exact HB.out | apply below_alloc | apply pw_below_drewN | apply below_drew1 | refine below_set ?_ GE297.out) | exact HB.out)) hb); clear BK297; clear HB; have BK297 := n0_; have HB := n1_; clear n0_ n1_; (try clear hb); (try clear hb2); (try clear hk); (try clear hi)))
          go_ret
          exact ⟨by first | rfl | (simp [errW_none, errW_some] <;> rfl) | (simp [*, errW_none, errW_some] <;> rfl) | (simp [*, errW_none, errW_some]; generalize ByteArray.toList _ = q_; cases q_ <;> rfl), by repeat (first | (with_reducible first | exact HB.out | apply below_alloc | apply pw_below_drewN | apply below_drew1 | refine below_set ?_ GE297.out) | exact HB.out)⟩
        · replace c12 := Bool.eq_false_iff.mpr c12
          subst c12
          have H1 : ((set_Set_Squares.f kj5 t295 t296).bind fun t299 => (kakugyolaw03_StepEdges.l0 kj5 a1 t299 (t299.length : Int) 0 t295 t296)) = some r := by rw [if_neg (show ¬ (false = true) by decide)] at H; exact H
          clear H
          have H := H1
          clear H1
          replace H := Option.bind_eq_some_iff.mp H
          obtain ⟨t299, A160, H⟩ := H
          replace H : (kakugyolaw03_StepEdges.l0 kj5 a1 t299 (t299.length : Int) 0 t295 t296) = some r := H
          have A16 := Aside0.mk A160
          clear A160
          have H' := Aside0.mk H
          clear H
          have hcz17_0 : wc.cell? ⟨gb297, 0, none⟩ = some (.int .u64 t295) := (blk_cell BK297.out 0).trans rfl
          have hcz17_1 : wc.cell? ⟨gb297, 1, none⟩ = some (.int .u64 t296) := (blk_cell BK297.out 1).trans rfl
          have hfz17_0 := blk_frozen BK297.out 0
          have hfz17_1 := blk_frozen BK297.out 1
          go_wp2_with (first | ((with_reducible refine gate_callee (f := 25) rfl ?_); refine goesL_ (some 24) rfl rfl Tryd.func25 (by kernel_rfl) rfl #[.agg #[.int .u64 t295, .int .u64 t296]] rfl (by (try simp only [List.map_toArray, List.map_cons, List.map_nil]); first | done | rfl | (simp only [List.length_drop, List.length_take]; rfl)) ?_; (with_reducible refine (set_Set_Squares.calls kj5 t295 t296 t299 _ (by exact hT.below (by repeat (first | (with_reducible first | exact HB.out | apply below_alloc | apply pw_below_drewN | apply below_drew1) | exact HB.out))) A16.out).mono ?_); rintro e w18 ⟨v300, rfl, ho0, hb⟩; refine ⟨_, rfl, ?_⟩; have n0_ := Aside0.mk (Kd.R_lower ho0 (below_size (by repeat (first | (with_reducible first | exact HB.out | apply below_alloc | apply pw_below_drewN | apply below_drew1 | refine below_set ?_ GE297.out) | exact HB.out)))); have n1_ := Aside0.mk (blk_below (g := gb297) (o := .cells #[.int .u64 t295, .int .u64 t296] 26 (0, 0)) (by (with_reducible repeat (first | refine blk_drewN ?_ _ | refine blk_drew ?_ | refine blk_alloc ?_ _)); exact BK297.out) hb); have n2_ := Aside0.mk (below_step (by repeat (first | (with_reducible first | exact HB.out | apply below_alloc | apply pw_below_drewN | apply below_drew1 | refine below_set ?_ GE297.out) | exact HB.out)) hb); clear BK297; clear HB; have HO301 := n0_; have BK297 := n1_; have HB := n2_; clear n0_ n1_ n2_; (try clear hb); (try clear hb2); (try clear hk); (try clear hi); (try clear ho0); obtain ⟨Ao19, co19, eo19⟩ := Kd.R_slice HO301.out; subst eo19))
          go_loopg [26] kj5 (fun kq v26 w' => ∃ (x26_2 : Int), v26 = .int .i64 x26_2 ∧ Aside0 (kakugyolaw03_StepEdges.l0 kq a1 t299 (t299.length : Int) x26_2 t295 t296 = some r) ∧ Aside0 (kq ≤ kj5) ∧ Aside0 (Kd.R (Kd.int .i64) 3 w' w.heap.size (fun _ => True) (.slice Ao19 t299.length co19) t299) ∧ Aside0 (w'.heap[gb297]? = some (.cells #[.int .u64 t295, .int .u64 t296] 26 (0, 0))) ∧ Aside0 (Below w.heap.size w w'))
          case atStart => exact ⟨(0), (by first | rfl | (simp; done) | (simp [*]; done)), H', ⟨Nat.le_refl _⟩, ⟨by (with_reducible repeat (first | apply Kd.R_alloc | apply Kd.R_drewN | apply Kd.R_drew)); exact HO301.out⟩, ⟨by (with_reducible repeat (first | refine blk_drewN ?_ _ | refine blk_drew ?_ | refine blk_alloc ?_ _)); exact BK297.out⟩, ⟨by repeat (first | (with_reducible first | exact HB.out | apply below_alloc | apply pw_below_drewN | apply below_drew1 | refine below_set ?_ GE297.out) | exact HB.out)⟩⟩
          case round =>
            clear H'
            try clear c1
            try clear c2
            try clear p2
            try clear c4
            try clear c6
            try clear c11
            try clear c11b0
            try clear c12
            try clear c14
            try clear hcz10_0
            try clear hcz10_1
            try clear hcz14_0
            try clear hcz14_1
            try clear hcz17_0
            try clear hcz17_1
            try clear hfz10_0
            try clear hfz10_1
            try clear hfz14_0
            try clear hfz14_1
            try clear hfz17_0
            try clear hfz17_1
            try clear p2
            obtain ⟨x26_2, rfl, HA, HK2, HO_24, BK297, HB⟩ := hrel
            cases gk with
            | zero => exact absurd HA.out (by simp [kakugyolaw03_StepEdges.l0])
            | succ k2 =>
              have H := HA.out
              clear HA
              simp only [kakugyolaw03_StepEdges.l0] at H
              by_cases c20 : x26_2 < (t299.length : Int)
              · rw [if_pos c20] at H
                have c20b0 : decide (x26_2 < (t299.length : Int)) = true := decide_eq_true c20
                clear c20
                by_cases c21 : 0 ≤ x26_2
                · rw [if_pos c21] at H
                  have c21b0 : decide (0 ≤ x26_2) = true := decide_eq_true c21
                  clear c21
                  by_cases c22 : x26_2 < (t299.length : Int)
                  · rw [if_pos c22] at H
                    have c22b0 : decide (x26_2 < (t299.length : Int)) = true := decide_eq_true c22
                    clear c22
                    replace H := Option.bind_eq_some_iff.mp H
                    obtain ⟨t304, A230, H⟩ := H
                    replace H : ((set_File.f a1).bind fun t305 => ((set_Rank.f (rd t299 x26_2)).bind fun t306 => ((set_Rank.f a1).bind fun t307 => (if (wrap64 (t304 - t305)) < (-1) then (some false) else (if (wrap64 (t304 - t305)) > 1 then (some false) else (if (wrap64 (t306 - t307)) < (-2) then (some false) else (if (wrap64 (t306 - t307)) > 2 then (some false) else (if (rd t299 x26_2) = a1 then (some false) else (kakugyolaw03_StepEdges.l0 k2 a1 t299 (t299.length : Int) (wrap64 (x26_2 + 1)) t295 t296))))))))) = some r := H
                    have A23 := Aside0.mk A230
                    clear A230
                    replace H := Option.bind_eq_some_iff.mp H
                    obtain ⟨t305, A240, H⟩ := H
                    replace H : ((set_Rank.f (rd t299 x26_2)).bind fun t306 => ((set_Rank.f a1).bind fun t307 => (if (wrap64 (t304 - t305)) < (-1) then (some false) else (if (wrap64 (t304 - t305)) > 1 then (some false) else (if (wrap64 (t306 - t307)) < (-2) then (some false) else (if (wrap64 (t306 - t307)) > 2 then (some false) else (if (rd t299 x26_2) = a1 then (some false) else (kakugyolaw03_StepEdges.l0 k2 a1 t299 (t299.length : Int) (wrap64 (x26_2 + 1)) t295 t296)))))))) = some r := H
                    have A24 := Aside0.mk A240
                    clear A240
                    replace H := Option.bind_eq_some_iff.mp H
                    obtain ⟨t306, A250, H⟩ := H
                    replace H : ((set_Rank.f a1).bind fun t307 => (if (wrap64 (t304 - t305)) < (-1) then (some false) else (if (wrap64 (t304 - t305)) > 1 then (some false) else (if (wrap64 (t306 - t307)) < (-2) then (some false) else (if (wrap64 (t306 - t307)) > 2 then (some false) else (if (rd t299 x26_2) = a1 then (some false) else (kakugyolaw03_StepEdges.l0 k2 a1 t299 (t299.length : Int) (wrap64 (x26_2 + 1)) t295 t296))))))) = some r := H
                    have A25 := Aside0.mk A250
                    clear A250
                    replace H := Option.bind_eq_some_iff.mp H
                    obtain ⟨t307, A260, H⟩ := H
                    replace H : (if (wrap64 (t304 - t305)) < (-1) then (some false) else (if (wrap64 (t304 - t305)) > 1 then (some false) else (if (wrap64 (t306 - t307)) < (-2) then (some false) else (if (wrap64 (t306 - t307)) > 2 then (some false) else (if (rd t299 x26_2) = a1 then (some false) else (kakugyolaw03_StepEdges.l0 k2 a1 t299 (t299.length : Int) (wrap64 (x26_2 + 1)) t295 t296)))))) = some r := H
                    have A26 := Aside0.mk A260
                    clear A260
                    by_cases c27 : (wrap64 (t304 - t305)) < (-1)
                    · rw [if_pos c27] at H
                      have c27b0 : decide ((wrap64 (t304 - t305)) < (-1)) = true := decide_eq_true c27
                      clear c27
                      obtain rfl := Option.some.inj H
                      have p303 : 0 ≤ (x26_2 : Int) := of_decide_eq_true (by first | (with_reducible assumption) | assumption)
                      have q303 : x26_2 < (t299.length : Int) := of_decide_eq_true (by first | (with_reducible assumption) | assumption)
                      obtain ⟨ad303, e303, hx303_0⟩ := Kd.at_int (Kd.R_reads' HO_24.out).2.2 x26_2 p303 q303
                      cases e303
                      replace p303 := eq_true p303
                      replace q303 := eq_true q303
                      go_wp2_with (first | ((with_reducible refine gate_callee (f := 21) rfl ?_); refine goesL_ (some 31) rfl rfl Tryd.func21 (by kernel_rfl) rfl #[.int .i64 (rd t299 x26_2)] rfl (by (try simp only [List.map_toArray, List.map_cons, List.map_nil]); first | done | rfl | (simp only [List.length_drop, List.length_take]; rfl)) ?_; (with_reducible refine (set_File.calls (rd t299 x26_2) t304 _ A23.out).mono ?_); rintro e w' ⟨rfl, ⟨nd, rfl⟩⟩; refine ⟨_, rfl, ?_⟩) | ((with_reducible refine gate_callee (f := 21) rfl ?_); refine goesL_ (some 33) rfl rfl Tryd.func21 (by kernel_rfl) rfl #[.int .i64 a1] rfl (by (try simp only [List.map_toArray, List.map_cons, List.map_nil]); first | done | rfl | (simp only [List.length_drop, List.length_take]; rfl)) ?_; (with_reducible refine (set_File.calls a1 t305 _ A24.out).mono ?_); rintro e w' ⟨rfl, ⟨nd, rfl⟩⟩; refine ⟨_, rfl, ?_⟩) | ((with_reducible refine gate_callee (f := 22) rfl ?_); refine goesL_ (some 36) rfl rfl Tryd.func22 (by kernel_rfl) rfl #[.int .i64 (rd t299 x26_2)] rfl (by (try simp only [List.map_toArray, List.map_cons, List.map_nil]); first | done | rfl | (simp only [List.length_drop, List.length_take]; rfl)) ?_; (with_reducible refine (set_Rank.calls (rd t299 x26_2) t306 _ A25.out).mono ?_); rintro e w' ⟨rfl, ⟨nd, rfl⟩⟩; refine ⟨_, rfl, ?_⟩) | ((with_reducible refine gate_callee (f := 22) rfl ?_); refine goesL_ (some 38) rfl rfl Tryd.func22 (by kernel_rfl) rfl #[.int .i64 a1] rfl (by (try simp only [List.map_toArray, List.map_cons, List.map_nil]); first | done | rfl | (simp only [List.length_drop, List.length_take]; rfl)) ?_; (with_reducible refine (set_Rank.calls a1 t307 _ A26.out).mono ?_); rintro e w' ⟨rfl, ⟨nd, rfl⟩⟩; refine ⟨_, rfl, ?_⟩))
                      go_ret
                      exact ⟨by first | rfl | (simp [errW_none, errW_some] <;> rfl) | (simp [*, errW_none, errW_some] <;> rfl) | (simp [*, errW_none, errW_some]; generalize ByteArray.toList _ = q_; cases q_ <;> rfl), by repeat (first | (with_reducible first | exact HB.out | apply below_alloc | apply pw_below_drewN | apply below_drew1 | refine below_set ?_ GE297.out) | exact HB.out)⟩
                    · rw [if_neg c27] at H
                      have c27b0 : decide ((wrap64 (t304 - t305)) < (-1)) = false := decide_eq_false c27
                      clear c27
                      by_cases c28 : (wrap64 (t304 - t305)) > 1
                      · rw [if_pos c28] at H
                        have c28b0 : decide (1 < (wrap64 (t304 - t305))) = true := decide_eq_true c28
                        clear c28
                        obtain rfl := Option.some.inj H
                        have p303 : 0 ≤ (x26_2 : Int) := of_decide_eq_true (by first | (with_reducible assumption) | assumption)
                        have q303 : x26_2 < (t299.length : Int) := of_decide_eq_true (by first | (with_reducible assumption) | assumption)
                        obtain ⟨ad303, e303, hx303_0⟩ := Kd.at_int (Kd.R_reads' HO_24.out).2.2 x26_2 p303 q303
                        cases e303
                        replace p303 := eq_true p303
                        replace q303 := eq_true q303
                        go_wp2_with (first | ((with_reducible refine gate_callee (f := 21) rfl ?_); refine goesL_ (some 31) rfl rfl Tryd.func21 (by kernel_rfl) rfl #[.int .i64 (rd t299 x26_2)] rfl (by (try simp only [List.map_toArray, List.map_cons, List.map_nil]); first | done | rfl | (simp only [List.length_drop, List.length_take]; rfl)) ?_; (with_reducible refine (set_File.calls (rd t299 x26_2) t304 _ A23.out).mono ?_); rintro e w' ⟨rfl, ⟨nd, rfl⟩⟩; refine ⟨_, rfl, ?_⟩) | ((with_reducible refine gate_callee (f := 21) rfl ?_); refine goesL_ (some 33) rfl rfl Tryd.func21 (by kernel_rfl) rfl #[.int .i64 a1] rfl (by (try simp only [List.map_toArray, List.map_cons, List.map_nil]); first | done | rfl | (simp only [List.length_drop, List.length_take]; rfl)) ?_; (with_reducible refine (set_File.calls a1 t305 _ A24.out).mono ?_); rintro e w' ⟨rfl, ⟨nd, rfl⟩⟩; refine ⟨_, rfl, ?_⟩) | ((with_reducible refine gate_callee (f := 22) rfl ?_); refine goesL_ (some 36) rfl rfl Tryd.func22 (by kernel_rfl) rfl #[.int .i64 (rd t299 x26_2)] rfl (by (try simp only [List.map_toArray, List.map_cons, List.map_nil]); first | done | rfl | (simp only [List.length_drop, List.length_take]; rfl)) ?_; (with_reducible refine (set_Rank.calls (rd t299 x26_2) t306 _ A25.out).mono ?_); rintro e w' ⟨rfl, ⟨nd, rfl⟩⟩; refine ⟨_, rfl, ?_⟩) | ((with_reducible refine gate_callee (f := 22) rfl ?_); refine goesL_ (some 38) rfl rfl Tryd.func22 (by kernel_rfl) rfl #[.int .i64 a1] rfl (by (try simp only [List.map_toArray, List.map_cons, List.map_nil]); first | done | rfl | (simp only [List.length_drop, List.length_take]; rfl)) ?_; (with_reducible refine (set_Rank.calls a1 t307 _ A26.out).mono ?_); rintro e w' ⟨rfl, ⟨nd, rfl⟩⟩; refine ⟨_, rfl, ?_⟩))
                        go_ret
                        exact ⟨by first | rfl | (simp [errW_none, errW_some] <;> rfl) | (simp [*, errW_none, errW_some] <;> rfl) | (simp [*, errW_none, errW_some]; generalize ByteArray.toList _ = q_; cases q_ <;> rfl), by repeat (first | (with_reducible first | exact HB.out | apply below_alloc | apply pw_below_drewN | apply below_drew1 | refine below_set ?_ GE297.out) | exact HB.out)⟩
                      · rw [if_neg c28] at H
                        have c28b0 : decide (1 < (wrap64 (t304 - t305))) = false := decide_eq_false c28
                        clear c28
                        by_cases c29 : (wrap64 (t306 - t307)) < (-2)
                        · rw [if_pos c29] at H
                          have c29b0 : decide ((wrap64 (t306 - t307)) < (-2)) = true := decide_eq_true c29
                          clear c29
                          obtain rfl := Option.some.inj H
                          have p303 : 0 ≤ (x26_2 : Int) := of_decide_eq_true (by first | (with_reducible assumption) | assumption)
                          have q303 : x26_2 < (t299.length : Int) := of_decide_eq_true (by first | (with_reducible assumption) | assumption)
                          obtain ⟨ad303, e303, hx303_0⟩ := Kd.at_int (Kd.R_reads' HO_24.out).2.2 x26_2 p303 q303
                          cases e303
                          replace p303 := eq_true p303
                          replace q303 := eq_true q303
                          go_wp2_with (first | ((with_reducible refine gate_callee (f := 21) rfl ?_); refine goesL_ (some 31) rfl rfl Tryd.func21 (by kernel_rfl) rfl #[.int .i64 (rd t299 x26_2)] rfl (by (try simp only [List.map_toArray, List.map_cons, List.map_nil]); first | done | rfl | (simp only [List.length_drop, List.length_take]; rfl)) ?_; (with_reducible refine (set_File.calls (rd t299 x26_2) t304 _ A23.out).mono ?_); rintro e w' ⟨rfl, ⟨nd, rfl⟩⟩; refine ⟨_, rfl, ?_⟩) | ((with_reducible refine gate_callee (f := 21) rfl ?_); refine goesL_ (some 33) rfl rfl Tryd.func21 (by kernel_rfl) rfl #[.int .i64 a1] rfl (by (try simp only [List.map_toArray, List.map_cons, List.map_nil]); first | done | rfl | (simp only [List.length_drop, List.length_take]; rfl)) ?_; (with_reducible refine (set_File.calls a1 t305 _ A24.out).mono ?_); rintro e w' ⟨rfl, ⟨nd, rfl⟩⟩; refine ⟨_, rfl, ?_⟩) | ((with_reducible refine gate_callee (f := 22) rfl ?_); refine goesL_ (some 36) rfl rfl Tryd.func22 (by kernel_rfl) rfl #[.int .i64 (rd t299 x26_2)] rfl (by (try simp only [List.map_toArray, List.map_cons, List.map_nil]); first | done | rfl | (simp only [List.length_drop, List.length_take]; rfl)) ?_; (with_reducible refine (set_Rank.calls (rd t299 x26_2) t306 _ A25.out).mono ?_); rintro e w' ⟨rfl, ⟨nd, rfl⟩⟩; refine ⟨_, rfl, ?_⟩) | ((with_reducible refine gate_callee (f := 22) rfl ?_); refine goesL_ (some 38) rfl rfl Tryd.func22 (by kernel_rfl) rfl #[.int .i64 a1] rfl (by (try simp only [List.map_toArray, List.map_cons, List.map_nil]); first | done | rfl | (simp only [List.length_drop, List.length_take]; rfl)) ?_; (with_reducible refine (set_Rank.calls a1 t307 _ A26.out).mono ?_); rintro e w' ⟨rfl, ⟨nd, rfl⟩⟩; refine ⟨_, rfl, ?_⟩))
                          go_ret
                          exact ⟨by first | rfl | (simp [errW_none, errW_some] <;> rfl) | (simp [*, errW_none, errW_some] <;> rfl) | (simp [*, errW_none, errW_some]; generalize ByteArray.toList _ = q_; cases q_ <;> rfl), by repeat (first | (with_reducible first | exact HB.out | apply below_alloc | apply pw_below_drewN | apply below_drew1 | refine below_set ?_ GE297.out) | exact HB.out)⟩
                        · rw [if_neg c29] at H
                          have c29b0 : decide ((wrap64 (t306 - t307)) < (-2)) = false := decide_eq_false c29
                          clear c29
                          by_cases c30 : (wrap64 (t306 - t307)) > 2
                          · rw [if_pos c30] at H
                            have c30b0 : decide (2 < (wrap64 (t306 - t307))) = true := decide_eq_true c30
                            clear c30
                            obtain rfl := Option.some.inj H
                            have p303 : 0 ≤ (x26_2 : Int) := of_decide_eq_true (by first | (with_reducible assumption) | assumption)
                            have q303 : x26_2 < (t299.length : Int) := of_decide_eq_true (by first | (with_reducible assumption) | assumption)
                            obtain ⟨ad303, e303, hx303_0⟩ := Kd.at_int (Kd.R_reads' HO_24.out).2.2 x26_2 p303 q303
                            cases e303
                            replace p303 := eq_true p303
                            replace q303 := eq_true q303
                            go_wp2_with (first | ((with_reducible refine gate_callee (f := 21) rfl ?_); refine goesL_ (some 31) rfl rfl Tryd.func21 (by kernel_rfl) rfl #[.int .i64 (rd t299 x26_2)] rfl (by (try simp only [List.map_toArray, List.map_cons, List.map_nil]); first | done | rfl | (simp only [List.length_drop, List.length_take]; rfl)) ?_; (with_reducible refine (set_File.calls (rd t299 x26_2) t304 _ A23.out).mono ?_); rintro e w' ⟨rfl, ⟨nd, rfl⟩⟩; refine ⟨_, rfl, ?_⟩) | ((with_reducible refine gate_callee (f := 21) rfl ?_); refine goesL_ (some 33) rfl rfl Tryd.func21 (by kernel_rfl) rfl #[.int .i64 a1] rfl (by (try simp only [List.map_toArray, List.map_cons, List.map_nil]); first | done | rfl | (simp only [List.length_drop, List.length_take]; rfl)) ?_; (with_reducible refine (set_File.calls a1 t305 _ A24.out).mono ?_); rintro e w' ⟨rfl, ⟨nd, rfl⟩⟩; refine ⟨_, rfl, ?_⟩) | ((with_reducible refine gate_callee (f := 22) rfl ?_); refine goesL_ (some 36) rfl rfl Tryd.func22 (by kernel_rfl) rfl #[.int .i64 (rd t299 x26_2)] rfl (by (try simp only [List.map_toArray, List.map_cons, List.map_nil]); first | done | rfl | (simp only [List.length_drop, List.length_take]; rfl)) ?_; (with_reducible refine (set_Rank.calls (rd t299 x26_2) t306 _ A25.out).mono ?_); rintro e w' ⟨rfl, ⟨nd, rfl⟩⟩; refine ⟨_, rfl, ?_⟩) | ((with_reducible refine gate_callee (f := 22) rfl ?_); refine goesL_ (some 38) rfl rfl Tryd.func22 (by kernel_rfl) rfl #[.int .i64 a1] rfl (by (try simp only [List.map_toArray, List.map_cons, List.map_nil]); first | done | rfl | (simp only [List.length_drop, List.length_take]; rfl)) ?_; (with_reducible refine (set_Rank.calls a1 t307 _ A26.out).mono ?_); rintro e w' ⟨rfl, ⟨nd, rfl⟩⟩; refine ⟨_, rfl, ?_⟩))
                            go_ret
                            exact ⟨by first | rfl | (simp [errW_none, errW_some] <;> rfl) | (simp [*, errW_none, errW_some] <;> rfl) | (simp [*, errW_none, errW_some]; generalize ByteArray.toList _ = q_; cases q_ <;> rfl), by repeat (first | (with_reducible first | exact HB.out | apply below_alloc | apply pw_below_drewN | apply below_drew1 | refine below_set ?_ GE297.out) | exact HB.out)⟩
                          · rw [if_neg c30] at H
                            have c30b0 : decide (2 < (wrap64 (t306 - t307))) = false := decide_eq_false c30
                            clear c30
                            by_cases c31 : (rd t299 x26_2) = a1
                            · rw [if_pos c31] at H
                              have c31b0 : ((rd t299 x26_2) == a1) = true := beq_iff_eq.mpr c31
                              have c31b1 : ((rd t299 x26_2) != a1) = false := bne_eq_false_iff_eq.mpr c31
                              clear c31
                              obtain rfl := Option.some.inj H
                              have p303 : 0 ≤ (x26_2 : Int) := of_decide_eq_true (by first | (with_reducible assumption) | assumption)
                              have q303 : x26_2 < (t299.length : Int) := of_decide_eq_true (by first | (with_reducible assumption) | assumption)
                              obtain ⟨ad303, e303, hx303_0⟩ := Kd.at_int (Kd.R_reads' HO_24.out).2.2 x26_2 p303 q303
                              cases e303
                              replace p303 := eq_true p303
                              replace q303 := eq_true q303
                              go_wp2_with (first | ((with_reducible refine gate_callee (f := 21) rfl ?_); refine goesL_ (some 31) rfl rfl Tryd.func21 (by kernel_rfl) rfl #[.int .i64 (rd t299 x26_2)] rfl (by (try simp only [List.map_toArray, List.map_cons, List.map_nil]); first | done | rfl | (simp only [List.length_drop, List.length_take]; rfl)) ?_; (with_reducible refine (set_File.calls (rd t299 x26_2) t304 _ A23.out).mono ?_); rintro e w' ⟨rfl, ⟨nd, rfl⟩⟩; refine ⟨_, rfl, ?_⟩) | ((with_reducible refine gate_callee (f := 21) rfl ?_); refine goesL_ (some 33) rfl rfl Tryd.func21 (by kernel_rfl) rfl #[.int .i64 a1] rfl (by (try simp only [List.map_toArray, List.map_cons, List.map_nil]); first | done | rfl | (simp only [List.length_drop, List.length_take]; rfl)) ?_; (with_reducible refine (set_File.calls a1 t305 _ A24.out).mono ?_); rintro e w' ⟨rfl, ⟨nd, rfl⟩⟩; refine ⟨_, rfl, ?_⟩) | ((with_reducible refine gate_callee (f := 22) rfl ?_); refine goesL_ (some 36) rfl rfl Tryd.func22 (by kernel_rfl) rfl #[.int .i64 (rd t299 x26_2)] rfl (by (try simp only [List.map_toArray, List.map_cons, List.map_nil]); first | done | rfl | (simp only [List.length_drop, List.length_take]; rfl)) ?_; (with_reducible refine (set_Rank.calls (rd t299 x26_2) t306 _ A25.out).mono ?_); rintro e w' ⟨rfl, ⟨nd, rfl⟩⟩; refine ⟨_, rfl, ?_⟩) | ((with_reducible refine gate_callee (f := 22) rfl ?_); refine goesL_ (some 38) rfl rfl Tryd.func22 (by kernel_rfl) rfl #[.int .i64 a1] rfl (by (try simp only [List.map_toArray, List.map_cons, List.map_nil]); first | done | rfl | (simp only [List.length_drop, List.length_take]; rfl)) ?_; (with_reducible refine (set_Rank.calls a1 t307 _ A26.out).mono ?_); rintro e w' ⟨rfl, ⟨nd, rfl⟩⟩; refine ⟨_, rfl, ?_⟩))
                              go_ret
                              exact ⟨by first | rfl | (simp [errW_none, errW_some] <;> rfl) | (simp [*, errW_none, errW_some] <;> rfl) | (simp [*, errW_none, errW_some]; generalize ByteArray.toList _ = q_; cases q_ <;> rfl), by repeat (first | (with_reducible first | exact HB.out | apply below_alloc | apply pw_below_drewN | apply below_drew1 | refine below_set ?_ GE297.out) | exact HB.out)⟩
                            · rw [if_neg c31] at H
                              have c31b0 : ((rd t299 x26_2) == a1) = false := beq_eq_false_iff_ne.mpr c31
                              have c31b1 : ((rd t299 x26_2) != a1) = true := bne_iff_ne.mpr c31
                              have H' := Aside0.mk H
                              clear H
                              have p303 : 0 ≤ (x26_2 : Int) := of_decide_eq_true (by first | (with_reducible assumption) | assumption)
                              have q303 : x26_2 < (t299.length : Int) := of_decide_eq_true (by first | (with_reducible assumption) | assumption)
                              obtain ⟨ad303, e303, hx303_0⟩ := Kd.at_int (Kd.R_reads' HO_24.out).2.2 x26_2 p303 q303
                              cases e303
                              replace p303 := eq_true p303
                              replace q303 := eq_true q303
                              go_wp2_with (first | ((with_reducible refine gate_callee (f := 21) rfl ?_); refine goesL_ (some 31) rfl rfl Tryd.func21 (by kernel_rfl) rfl #[.int .i64 (rd t299 x26_2)] rfl (by (try simp only [List.map_toArray, List.map_cons, List.map_nil]); first | done | rfl | (simp only [List.length_drop, List.length_take]; rfl)) ?_; (with_reducible refine (set_File.calls (rd t299 x26_2) t304 _ A23.out).mono ?_); rintro e w' ⟨rfl, ⟨nd, rfl⟩⟩; refine ⟨_, rfl, ?_⟩) | ((with_reducible refine gate_callee (f := 21) rfl ?_); refine goesL_ (some 33) rfl rfl Tryd.func21 (by kernel_rfl) rfl #[.int .i64 a1] rfl (by (try simp only [List.map_toArray, List.map_cons, List.map_nil]); first | done | rfl | (simp only [List.length_drop, List.length_take]; rfl)) ?_; (with_reducible refine (set_File.calls a1 t305 _ A24.out).mono ?_); rintro e w' ⟨rfl, ⟨nd, rfl⟩⟩; refine ⟨_, rfl, ?_⟩) | ((with_reducible refine gate_callee (f := 22) rfl ?_); refine goesL_ (some 36) rfl rfl Tryd.func22 (by kernel_rfl) rfl #[.int .i64 (rd t299 x26_2)] rfl (by (try simp only [List.map_toArray, List.map_cons, List.map_nil]); first | done | rfl | (simp only [List.length_drop, List.length_take]; rfl)) ?_; (with_reducible refine (set_Rank.calls (rd t299 x26_2) t306 _ A25.out).mono ?_); rintro e w' ⟨rfl, ⟨nd, rfl⟩⟩; refine ⟨_, rfl, ?_⟩) | ((with_reducible refine gate_callee (f := 22) rfl ?_); refine goesL_ (some 38) rfl rfl Tryd.func22 (by kernel_rfl) rfl #[.int .i64 a1] rfl (by (try simp only [List.map_toArray, List.map_cons, List.map_nil]); first | done | rfl | (simp only [List.length_drop, List.length_take]; rfl)) ?_; (with_reducible refine (set_Rank.calls a1 t307 _ A26.out).mono ?_); rintro e w' ⟨rfl, ⟨nd, rfl⟩⟩; refine ⟨_, rfl, ?_⟩))
                              go_roundg k2
                              case measure => have := HJ5.out; have := HK2.out; omega
                              case rel => exact ⟨(wrap64 (x26_2 + 1)), (by first | rfl | (simp; done) | (simp [*]; done)), H', ⟨by have := HJ5.out; have := HK2.out; omega⟩, ⟨by (with_reducible repeat (first | apply Kd.R_alloc | apply Kd.R_drewN | apply Kd.R_drew)); exact HO_24.out⟩, ⟨by (with_reducible repeat (first | refine blk_drewN ?_ _ | refine blk_drew ?_ | refine blk_alloc ?_ _)); exact BK297.out⟩, ⟨by repeat (first | (with_reducible first | exact HB.out | apply below_alloc | apply pw_below_drewN | apply below_drew1 | refine below_set ?_ GE297.out) | exact HB.out)⟩⟩
                  · rw [if_neg c22] at H
                    exact absurd H (by simp)
                · rw [if_neg c21] at H
                  exact absurd H (by simp)
              · rw [if_neg c20] at H
                have c20b0 : decide (x26_2 < (t299.length : Int)) = false := decide_eq_false c20
                clear c20
                replace H := Option.bind_eq_some_iff.mp H
                obtain ⟨t302, A320, H⟩ := H
                replace H : (some (decide (t302 ≤ 8))) = some r := H
                have A32 := Aside0.mk A320
                clear A320
                obtain rfl := Option.some.inj H
                have hcz33_0 : wr.cell? ⟨gb297, 0, none⟩ = some (.int .u64 t295) := (blk_cell BK297.out 0).trans rfl
                have hcz33_1 : wr.cell? ⟨gb297, 1, none⟩ = some (.int .u64 t296) := (blk_cell BK297.out 1).trans rfl
                have hfz33_0 := blk_frozen BK297.out 0
                have hfz33_1 := blk_frozen BK297.out 1
                go_wp2_with (first | ((with_reducible refine gate_callee (f := 18) rfl ?_); refine goesL_ (some 61) rfl rfl Tryd.func18 (by kernel_rfl) rfl #[.agg #[.int .u64 t295, .int .u64 t296]] rfl (by (try simp only [List.map_toArray, List.map_cons, List.map_nil]); first | done | rfl | (simp only [List.length_drop, List.length_take]; rfl)) ?_; (with_reducible refine (set_Set_Count.calls t295 t296 t302 _ A32.out).mono ?_); rintro e w34 ⟨rfl, hb⟩; refine ⟨_, rfl, ?_⟩; have n0_ := Aside0.mk (Kd.R_below (by (with_reducible repeat (first | apply Kd.R_alloc | apply Kd.R_drewN | apply Kd.R_drew)); exact HO_24.out) hb); have n1_ := Aside0.mk (blk_below (g := gb297) (o := .cells #[.int .u64 t295, .int .u64 t296] 26 (0, 0)) (by (with_reducible repeat (first | refine blk_drewN ?_ _ | refine blk_drew ?_ | refine blk_alloc ?_ _)); exact BK297.out) hb); have n2_ := Aside0.mk (below_step (by repeat (first | (with_reducible first | exact HB.out | apply below_alloc | apply pw_below_drewN | apply below_drew1 | refine below_set ?_ GE297.out) | exact HB.out)) hb); clear HO_24; clear BK297; clear HB; have HO_24 := n0_; have BK297 := n1_; have HB := n2_; clear n0_ n1_ n2_; (try clear hb); (try clear hb2); (try clear hk); (try clear hi)))
                go_ret
                exact ⟨by first | rfl | (simp [errW_none, errW_some] <;> rfl) | (simp [*, errW_none, errW_some] <;> rfl) | (simp [*, errW_none, errW_some]; generalize ByteArray.toList _ = q_; cases q_ <;> rfl), by repeat (first | (with_reducible first | exact HB.out | apply below_alloc | apply pw_below_drewN | apply below_drew1 | refine below_set ?_ GE297.out) | exact HB.out)⟩
  · replace c4 := Bool.eq_false_iff.mpr c4
    subst c4
    have H1 : (some false) = some r := by rw [if_neg (show ¬ (false = true) by decide)] at H; exact H
    clear H
    have H := H1
    clear H1
    obtain rfl := Option.some.inj H
    go_enter Tryd.func6, Tryd.ntmps6
    go_wp2_with (first | ((with_reducible refine gate_callee (f := 23) rfl ?_); refine goesL_ (some 10) rfl rfl Tryd.func23 (by kernel_rfl) rfl #[] rfl (by (try simp only [List.map_toArray, List.map_cons, List.map_nil]); first | done | rfl | (simp only [List.length_drop, List.length_take]; rfl)) ?_; (with_reducible refine (kakugyolaw03_steps.calls k  false _ A3.out).mono ?_); rintro e w35 ⟨rfl, hb⟩; refine ⟨_, rfl, ?_⟩; have n0_ := Aside0.mk (below_step (by repeat (first | (with_reducible first | exact HB.out | apply below_alloc | apply pw_below_drewN | apply below_drew1) | exact HB.out)) hb); clear HB; have HB := n0_; clear n0_; (try clear hb); (try clear hb2); (try clear hk); (try clear hi)))
    go_ret
    exact ⟨by first | rfl | (simp [errW_none, errW_some] <;> rfl) | (simp [*, errW_none, errW_some] <;> rfl) | (simp [*, errW_none, errW_some]; generalize ByteArray.toList _ = q_; cases q_ <;> rfl), by repeat (first | (with_reducible first | exact HB.out | apply below_alloc | apply pw_below_drewN | apply below_drew1) | exact HB.out)⟩

/-- THE ONE PURE STATEMENT of kakugyolaw03_StepEdges: yours. -/
def kakugyolaw03_StepEdges.Pure : Prop := ∀ (a0 : Int) (a1 : Int), (Lit.int .i8 a0).wf = true → (Lit.int .i64 a1).wf = true → ∃ k, kakugyolaw03_StepEdges.f k a0 a1 = some true
theorem kakugyolaw03_StepEdges.walk (P : kakugyolaw03_StepEdges.Pure) (a0 : Int) (a1 : Int) (w : World) (hT : bits_TrailingZeros64.Tab w) (w0 : (Lit.int .i8 a0).wf = true) (w1 : (Lit.int .i64 a1).wf = true) :
    Calls Tryd.prog 6 #[.int .i8 a0, .int .i64 a1] w fun e w' => e = .returned (.bool true) ∧ Below w.heap.size w w' := by
  obtain ⟨k, h⟩ := P a0 a1 w0 w1
  refine (kakugyolaw03_StepEdges.calls k a0 a1 true w hT h).mono ?_
  rintro e w' ⟨rfl, hd⟩
  exact ⟨rfl, hd⟩

end Go.Proofs.YtmoeodcmfjnihaaDoor.Pa
