-- Printed by a program of this session: the kit's printer, with contracts of this session's own among its functions.
import Derived.Test.YtmoeodcmfjnihaaPax0
import Derived.Test.YtmoeodcmfjnihaaPax1
import Derived.Test.YtmoeodcmfjnihaaPax3
import Derived.Test.YtmoeodcmfjnihaaPax4
import Derived.Test.YtmoeodcmfjnihaaPax6
import Derived.Test.YtmoeodcmfjnihaaPax10
namespace Go.Proofs.Ytmoeodcmfjnihaa.Pa
open Go.RowKit Go.Proofs.YtmoeodcmfjnihaaW.PrintWords Go.Proofs.YtmoeodcmfjnihaaW.PrintLast Go.Proofs.YtmoeodcmfjnihaaW.PrintMore
attribute [local go_sem] max2_int min2_int max_two min_two max_three min_three max_four min_four   -- for this text's walks alone
set_option linter.unusedVariables false
set_option linter.unusedSimpArgs false

attribute [local go_sem high] eqA23
/-! ### kakugyolaw03_StepZone: function 7 -/
def kakugyolaw03_StepZone.j0 : Nat → Int → Int → Bool → Int → Int → Option (Bool)
  | 0, _, _, _, _, _ => none
  | k + 1, x1, x5, x24, x276000, x276001 => if x24 = true then ((set_Set_Empty.f x276000 x276001).bind fun t276 => (some t276)) else ((set_Set_Count.f x276000 x276001).bind fun t277 => (if t277 = 27 then ((set_Set_Has.f k x276000 x276001 x1).bind fun t278 => (if x5 ≥ 0 then (some (t278 == (decide (x5 ≤ 2)))) else (some (t278 == false)))) else (some false)))
def kakugyolaw03_StepZone.f (k : Nat) (a0 : Int) (a1 : Int) : Option (Bool) := (kakugyolaw03_steps.f k).bind fun t270 => (if t270 = true then ((step_Far.f k a0 a1).bind fun t271 => ((kakugyoref03_Far.f k a0 a1).bind fun t272 => (if t271 = t272 then ((step_Zone.f k a0).bind fun bt273 => (if a0 = 0 then (kakugyolaw03_StepZone.j0 k a1 t271 false bt273.1 bt273.2) else (kakugyolaw03_StepZone.j0 k a1 t271 (a0 != 1) bt273.1 bt273.2))) else (some false)))) else (some false))
theorem kakugyolaw03_StepZone.mono_l : ∀ k, (∀ y0 y1 y2 y3 y4, LeO (kakugyolaw03_StepZone.j0 k y0 y1 y2 y3 y4) (kakugyolaw03_StepZone.j0 (k + 1) y0 y1 y2 y3 y4))
  | 0 => fun _ _ _ _ _ r h => by simp [kakugyolaw03_StepZone.j0] at h
  | k + 1 => by
    have ih0 := kakugyolaw03_StepZone.mono_l k
    · intro y0 y1 y2 y3 y4
      unfold kakugyolaw03_StepZone.j0
      repeat' first
      | (with_reducible exact ih0 _ _ _ _ _)
      | (with_reducible exact kakugyolaw03_steps.mono _)
      | (with_reducible exact kakugyoref03_Far.mono _ _ _)
      | (with_reducible exact set_Set_Has.mono _ _ _ _)
      | (with_reducible exact step_Far.mono _ _ _)
      | (with_reducible exact step_Zone.mono _ _)
      | (with_reducible exact LeO.refl _)
      | (with_reducible exact LeO.none _)
      | (with_reducible refine LeO.ite ?_ ?_)
      | (with_reducible refine LeO.bind ?_ (fun _ => ?_))
      | exact ih0 _ _ _ _ _
      | exact kakugyolaw03_steps.mono _
      | exact kakugyoref03_Far.mono _ _ _
      | exact set_Set_Has.mono _ _ _ _
      | exact step_Far.mono _ _ _
      | exact step_Zone.mono _ _
      | exact LeO.none _
      | refine LeO.ite ?_ ?_
      | refine LeO.bind ?_ (fun _ => ?_)
theorem kakugyolaw03_StepZone.mono : ∀ a0 a1 k, LeO (kakugyolaw03_StepZone.f k a0 a1) (kakugyolaw03_StepZone.f (k + 1) a0 a1) := by
  intro a0 a1 k
  have ih0 := kakugyolaw03_StepZone.mono_l k
  unfold kakugyolaw03_StepZone.f
  repeat' first
      | (with_reducible exact ih0 _ _ _ _ _)
      | (with_reducible exact kakugyolaw03_steps.mono _)
      | (with_reducible exact kakugyoref03_Far.mono _ _ _)
      | (with_reducible exact set_Set_Has.mono _ _ _ _)
      | (with_reducible exact step_Far.mono _ _ _)
      | (with_reducible exact step_Zone.mono _ _)
      | (with_reducible exact LeO.refl _)
      | (with_reducible exact LeO.none _)
      | (with_reducible refine LeO.ite ?_ ?_)
      | (with_reducible refine LeO.bind ?_ (fun _ => ?_))
      | exact ih0 _ _ _ _ _
      | exact kakugyolaw03_steps.mono _
      | exact kakugyoref03_Far.mono _ _ _
      | exact set_Set_Has.mono _ _ _ _
      | exact step_Far.mono _ _ _
      | exact step_Zone.mono _ _
      | exact LeO.none _
      | refine LeO.ite ?_ ?_
      | refine LeO.bind ?_ (fun _ => ?_)
set_option maxHeartbeats 8000000 in
set_option maxRecDepth 100000 in
theorem kakugyolaw03_StepZone.calls (k : Nat) (a0 : Int) (a1 : Int) (r : Bool) (w : World) (h : kakugyolaw03_StepZone.f k a0 a1 = some r) :
    Calls Try.prog 7 #[.int .i64 a0, .int .i64 a1] w fun e w' => e = .returned (.bool r) ∧ Below w.heap.size w w' := by
  have hu30 := Try.underlying30
  have HB := Aside0.mk (Below.refl w.heap.size w)
  have H : ((kakugyolaw03_steps.f k).bind fun t270 => (if t270 = true then ((step_Far.f k a0 a1).bind fun t271 => ((kakugyoref03_Far.f k a0 a1).bind fun t272 => (if t271 = t272 then ((step_Zone.f k a0).bind fun bt273 => (if a0 = 0 then (kakugyolaw03_StepZone.j0 k a1 t271 false bt273.1 bt273.2) else (kakugyolaw03_StepZone.j0 k a1 t271 (a0 != 1) bt273.1 bt273.2))) else (some false)))) else (some false))) = some r := h
  clear h
  replace H := Option.bind_eq_some_iff.mp H
  obtain ⟨t270, A30, H⟩ := H
  replace H : (if t270 = true then ((step_Far.f k a0 a1).bind fun t271 => ((kakugyoref03_Far.f k a0 a1).bind fun t272 => (if t271 = t272 then ((step_Zone.f k a0).bind fun bt273 => (if a0 = 0 then (kakugyolaw03_StepZone.j0 k a1 t271 false bt273.1 bt273.2) else (kakugyolaw03_StepZone.j0 k a1 t271 (a0 != 1) bt273.1 bt273.2))) else (some false)))) else (some false)) = some r := H
  have A3 := Aside0.mk A30
  clear A30
  by_cases c4 : t270 = true
  · subst c4
    have H1 : ((step_Far.f k a0 a1).bind fun t271 => ((kakugyoref03_Far.f k a0 a1).bind fun t272 => (if t271 = t272 then ((step_Zone.f k a0).bind fun bt273 => (if a0 = 0 then (kakugyolaw03_StepZone.j0 k a1 t271 false bt273.1 bt273.2) else (kakugyolaw03_StepZone.j0 k a1 t271 (a0 != 1) bt273.1 bt273.2))) else (some false)))) = some r := by rw [if_pos rfl] at H; exact H
    clear H
    have H := H1
    clear H1
    replace H := Option.bind_eq_some_iff.mp H
    obtain ⟨t271, A50, H⟩ := H
    replace H : ((kakugyoref03_Far.f k a0 a1).bind fun t272 => (if t271 = t272 then ((step_Zone.f k a0).bind fun bt273 => (if a0 = 0 then (kakugyolaw03_StepZone.j0 k a1 t271 false bt273.1 bt273.2) else (kakugyolaw03_StepZone.j0 k a1 t271 (a0 != 1) bt273.1 bt273.2))) else (some false))) = some r := H
    have A5 := Aside0.mk A50
    clear A50
    replace H := Option.bind_eq_some_iff.mp H
    obtain ⟨t272, A60, H⟩ := H
    replace H : (if t271 = t272 then ((step_Zone.f k a0).bind fun bt273 => (if a0 = 0 then (kakugyolaw03_StepZone.j0 k a1 t271 false bt273.1 bt273.2) else (kakugyolaw03_StepZone.j0 k a1 t271 (a0 != 1) bt273.1 bt273.2))) else (some false)) = some r := H
    have A6 := Aside0.mk A60
    clear A60
    by_cases c7 : t271 = t272
    · rw [if_pos c7] at H
      have c7b0 : (t271 == t272) = true := beq_iff_eq.mpr c7
      have c7b1 : (t271 != t272) = false := bne_eq_false_iff_eq.mpr c7
      clear c7
      replace H := Option.bind_eq_some_iff.mp H
      obtain ⟨⟨t273, t274⟩, A80, H⟩ := H
      replace H : (if a0 = 0 then (kakugyolaw03_StepZone.j0 k a1 t271 false t273 t274) else (kakugyolaw03_StepZone.j0 k a1 t271 (a0 != 1) t273 t274)) = some r := H
      have A8 := Aside0.mk A80
      clear A80
      have HC9 := Aside0.mk H
      clear H
      go_enter Try.func7, Try.ntmps7
      go_upto_region 7 with (first | ((with_reducible refine gate_callee (f := 9) rfl ?_); refine goesL_ (some 7) rfl rfl Try.func9 (by kernel_rfl) rfl #[] rfl (by (try simp only [List.map_toArray, List.map_cons, List.map_nil]); first | done | rfl | (simp only [List.length_drop, List.length_take]; rfl)) ?_; (with_reducible refine (kakugyolaw03_steps.calls k  true _ A3.out).mono ?_); rintro e w10 ⟨rfl, hb⟩; refine ⟨_, rfl, ?_⟩; have n0_ := Aside0.mk (below_step (by repeat (first | (with_reducible first | exact HB.out | apply below_alloc | apply pw_below_drewN | apply below_drew1) | exact HB.out)) hb); clear HB; have HB := n0_; clear n0_; (try clear hb); (try clear hb2); (try clear hk); (try clear hi)) | ((with_reducible refine gate_callee (f := 25) rfl ?_); refine goesL_ (some 11) rfl rfl Try.func25 (by kernel_rfl) rfl #[.int .i64 a0, .int .i64 a1] rfl (by (try simp only [List.map_toArray, List.map_cons, List.map_nil]); first | done | rfl | (simp only [List.length_drop, List.length_take]; rfl)) ?_; (with_reducible refine (step_Far.calls k a0 a1 t271 _ A5.out).mono ?_); rintro e w' ⟨rfl, ⟨nd, rfl⟩⟩; refine ⟨_, rfl, ?_⟩; (try (rw [drewN_self w10]; generalize hq_ : World.drewN w10 _ = w10; have n0_ : Aside0 (Below w.heap.size w w10) := ⟨by rw [← hq_]; exact (by repeat (first | (with_reducible first | exact HB.out | apply below_alloc | apply pw_below_drewN | apply below_drew1) | exact HB.out))⟩; clear HB hq_; have HB := n0_; clear n0_))) | ((with_reducible refine gate_callee (f := 26) rfl ?_); refine goesL_ (some 15) rfl rfl Try.func26 (by kernel_rfl) rfl #[.int .i64 a0, .int .i64 a1] rfl (by (try simp only [List.map_toArray, List.map_cons, List.map_nil]); first | done | rfl | (simp only [List.length_drop, List.length_take]; rfl)) ?_; (with_reducible refine (kakugyoref03_Far.calls k a0 a1 t272 _ A6.out).mono ?_); rintro e w' ⟨rfl, ⟨nd, rfl⟩⟩; refine ⟨_, rfl, ?_⟩; (try (rw [drewN_self w10]; generalize hq_ : World.drewN w10 _ = w10; have n0_ : Aside0 (Below w.heap.size w w10) := ⟨by rw [← hq_]; exact (by repeat (first | (with_reducible first | exact HB.out | apply below_alloc | apply pw_below_drewN | apply below_drew1) | exact HB.out))⟩; clear HB hq_; have HB := n0_; clear n0_))) | ((with_reducible refine gate_callee (f := 27) rfl ?_); refine goesL_ (some 18) rfl rfl Try.func27 (by kernel_rfl) rfl #[.int .i64 a0] rfl (by (try simp only [List.map_toArray, List.map_cons, List.map_nil]); first | done | rfl | (simp only [List.length_drop, List.length_take]; rfl)) ?_; (with_reducible refine (step_Zone.calls k a0 t273 t274 _ A8.out).mono ?_); rintro e w11 ⟨rfl, hb⟩; refine ⟨_, rfl, ?_⟩; have n0_ := Aside0.mk (below_step (by repeat (first | (with_reducible first | exact HB.out | apply below_alloc | apply pw_below_drewN | apply below_drew1) | exact HB.out)) hb); clear HB; have HB := n0_; clear n0_; (try clear hb); (try clear hb2); (try clear hk); (try clear hi)) | ((with_reducible refine gate_dst (N := 6) rfl ?_); refine box_event ?hg (N := 6) ?hd (cs := #[.int .u64 0, .int .u64 0]) (t := 30) ?hr ?_; (case hd => rfl); (case hg => rfl); (case hr => first | (go_simp; done) | (go_simp; rfl)); intro gb275 hg w12 hbox hb; have n0_ := Aside0.mk (below_step (by repeat (first | (with_reducible first | exact HB.out | apply below_alloc | apply pw_below_drewN | apply below_drew1) | exact HB.out)) hb); have n1_ := Aside0.mk (hbox); have n2_ := Aside0.mk ((by rw [hg]; exact (below_size (by repeat (first | (with_reducible first | exact HB.out | apply below_alloc | apply pw_below_drewN | apply below_drew1) | exact HB.out))) : w.heap.size ≤ gb275)); have n3_ := Aside0.mk ((by rw [hg]; exact (below_size (by repeat (first | (with_reducible first | exact HB.out | apply below_alloc | apply pw_below_drewN | apply below_drew1) | exact HB.out))) : w.heap.size ≤ gb275)); clear HB; have HB := n0_; have BK275 := n1_; have GW275 := n2_; have GE275 := n3_; clear n0_ n1_ n2_ n3_; clear hb hbox hg; have hcz13_0 : w12.cell? ⟨gb275, 0, none⟩ = some (.int .u64 0) := (blk_cell BK275.out 0).trans rfl; have hcz13_1 : w12.cell? ⟨gb275, 1, none⟩ = some (.int .u64 0) := (blk_cell BK275.out 1).trans rfl; have hfz13_0 := blk_frozen BK275.out 0; have hfz13_1 := blk_frozen BK275.out 1))
      (try simp only [Act.put, List.setIfInBounds_toArray, List.set_cons_zero, List.set_cons_succ])
      go_cut [24] (fun v24 wc => ∃ (kq : Nat) (x24_8 : Bool), v24 = .bool x24_8 ∧ Aside0 (kakugyolaw03_StepZone.j0 kq a1 t271 x24_8 t273 t274 = some r) ∧ Aside0 (kq ≤ k) ∧ Aside0 (wc.heap[gb275]? = some (.cells #[.int .u64 t273, .int .u64 t274] 30 (0, 0))) ∧ Aside0 (Below w.heap.size w wc))
      case first =>
        have H := HC9.out
        clear HC9
        by_cases c14 : a0 = 0
        · rw [if_pos c14] at H
          have c14b0 : (a0 == 0) = true := beq_iff_eq.mpr c14
          have c14b1 : (a0 != 0) = false := bne_eq_false_iff_eq.mpr c14
          clear c14
          (first | rw [c14b0] | (simp only [i64_w, i32_w]; rw [c14b0]) | skip)
          have H' := Aside0.mk H
          clear H
          go_wp2
          go_meet
          case rel => exact ⟨_, (false), (by first | rfl | (simp; done) | (simp [*]; done)), H', ⟨by first | omega | exact Nat.le_refl _⟩, ⟨by (with_reducible repeat (first | refine blk_drewN ?_ _ | refine blk_drew ?_ | refine blk_alloc ?_ _)); refine blk_put (cs := #[.int .u64 t273, .int .u64 0]) ?_ 1 _ rfl; (with_reducible repeat (first | refine blk_drewN ?_ _ | refine blk_drew ?_ | refine blk_alloc ?_ _)); refine blk_put (cs := #[.int .u64 0, .int .u64 0]) ?_ 0 _ rfl; (with_reducible repeat (first | refine blk_drewN ?_ _ | refine blk_drew ?_ | refine blk_alloc ?_ _)); exact BK275.out⟩, ⟨by repeat (first | (with_reducible first | exact HB.out | apply below_alloc | apply pw_below_drewN | apply below_drew1 | refine below_set ?_ GE275.out) | exact HB.out)⟩⟩
        · rw [if_neg c14] at H
          have c14b0 : (a0 == 0) = false := beq_eq_false_iff_ne.mpr c14
          have c14b1 : (a0 != 0) = true := bne_iff_ne.mpr c14
          (first | rw [c14b0] | (simp only [i64_w, i32_w]; rw [c14b0]) | skip)
          have H' := Aside0.mk H
          clear H
          go_wp2
          go_meet
          case rel => exact ⟨_, ((a0 != 1)), (by first | rfl | (simp; done) | (simp [*]; done)), H', ⟨by first | omega | exact Nat.le_refl _⟩, ⟨by (with_reducible repeat (first | refine blk_drewN ?_ _ | refine blk_drew ?_ | refine blk_alloc ?_ _)); refine blk_put (cs := #[.int .u64 t273, .int .u64 0]) ?_ 1 _ rfl; (with_reducible repeat (first | refine blk_drewN ?_ _ | refine blk_drew ?_ | refine blk_alloc ?_ _)); refine blk_put (cs := #[.int .u64 0, .int .u64 0]) ?_ 0 _ rfl; (with_reducible repeat (first | refine blk_drewN ?_ _ | refine blk_drew ?_ | refine blk_alloc ?_ _)); exact BK275.out⟩, ⟨by repeat (first | (with_reducible first | exact HB.out | apply below_alloc | apply pw_below_drewN | apply below_drew1 | refine below_set ?_ GE275.out) | exact HB.out)⟩⟩
      case rest =>
        clear HC9
        try clear c1
        try clear c2
        try clear p2
        try clear c4
        try clear c7
        try clear c7b0
        try clear c7b1
        try clear c9
        try clear c14
        try clear c14b0
        try clear c14b1
        try clear hcz13_0
        try clear hcz13_1
        try clear hfz13_0
        try clear hfz13_1
        obtain ⟨kq, x24_8, rfl, HA, HJ8, BK275, HB⟩ := hcut
        cases kq with
        | zero => exact absurd HA.out (by simp [kakugyolaw03_StepZone.j0])
        | succ kj8 =>
          have H := HA.out
          clear HA
          simp only [kakugyolaw03_StepZone.j0] at H
          by_cases c15 : x24_8 = true
          · subst c15
            have H1 : ((set_Set_Empty.f t273 t274).bind fun t276 => (some t276)) = some r := by rw [if_pos rfl] at H; exact H
            clear H
            have H := H1
            clear H1
            replace H := Option.bind_eq_some_iff.mp H
            obtain ⟨t276, A160, H⟩ := H
            replace H : (some t276) = some r := H
            have A16 := Aside0.mk A160
            clear A160
            obtain rfl := Option.some.inj H
            have hcz17_0 : wc.cell? ⟨gb275, 0, none⟩ = some (.int .u64 t273) := (blk_cell BK275.out 0).trans rfl
            have hcz17_1 : wc.cell? ⟨gb275, 1, none⟩ = some (.int .u64 t274) := (blk_cell BK275.out 1).trans rfl
            have hfz17_0 := blk_frozen BK275.out 0
            have hfz17_1 := blk_frozen BK275.out 1
            go_wp2_with (first | ((with_reducible refine gate_callee (f := 21) rfl ?_); refine goesL_ (some 26) rfl rfl Try.func21 (by kernel_rfl) rfl #[.agg #[.int .u64 t273, .int .u64 t274]] rfl (by (try simp only [List.map_toArray, List.map_cons, List.map_nil]); first | done | rfl | (simp only [List.length_drop, List.length_take]; rfl)) ?_; (with_reducible refine (set_Set_Empty.calls t273 t274 t276 _ A16.out).mono ?_); rintro e w18 ⟨rfl, hb⟩; refine ⟨_, rfl, ?_⟩; have n0_ := Aside0.mk (blk_below (g := gb275) (o := .cells #[.int .u64 t273, .int .u64 t274] 30 (0, 0)) (by (with_reducible repeat (first | refine blk_drewN ?_ _ | refine blk_drew ?_ | refine blk_alloc ?_ _)); exact BK275.out) hb); have n1_ := Aside0.mk (below_step (by repeat (first | (with_reducible first | exact HB.out | apply below_alloc | apply pw_below_drewN | apply below_drew1 | refine below_set ?_ GE275.out) | exact HB.out)) hb); clear BK275; clear HB; have BK275 := n0_; have HB := n1_; clear n0_ n1_; (try clear hb); (try clear hb2); (try clear hk); (try clear hi)))
            go_ret
            exact ⟨by first | rfl | (simp [errW_none, errW_some] <;> rfl) | (simp [*, errW_none, errW_some] <;> rfl) | (simp [*, errW_none, errW_some]; generalize ByteArray.toList _ = q_; cases q_ <;> rfl), by repeat (first | (with_reducible first | exact HB.out | apply below_alloc | apply pw_below_drewN | apply below_drew1 | refine below_set ?_ GE275.out) | exact HB.out)⟩
          · replace c15 := Bool.eq_false_iff.mpr c15
            subst c15
            have H1 : ((set_Set_Count.f t273 t274).bind fun t277 => (if t277 = 27 then ((set_Set_Has.f kj8 t273 t274 a1).bind fun t278 => (if t271 ≥ 0 then (some (t278 == (decide (t271 ≤ 2)))) else (some (t278 == false)))) else (some false))) = some r := by rw [if_neg (show ¬ (false = true) by decide)] at H; exact H
            clear H
            have H := H1
            clear H1
            replace H := Option.bind_eq_some_iff.mp H
            obtain ⟨t277, A190, H⟩ := H
            replace H : (if t277 = 27 then ((set_Set_Has.f kj8 t273 t274 a1).bind fun t278 => (if t271 ≥ 0 then (some (t278 == (decide (t271 ≤ 2)))) else (some (t278 == false)))) else (some false)) = some r := H
            have A19 := Aside0.mk A190
            clear A190
            by_cases c20 : t277 = 27
            · rw [if_pos c20] at H
              have c20b0 : (t277 == 27) = true := beq_iff_eq.mpr c20
              have c20b1 : (t277 != 27) = false := bne_eq_false_iff_eq.mpr c20
              clear c20
              replace H := Option.bind_eq_some_iff.mp H
              obtain ⟨t278, A210, H⟩ := H
              replace H : (if t271 ≥ 0 then (some (t278 == (decide (t271 ≤ 2)))) else (some (t278 == false))) = some r := H
              have A21 := Aside0.mk A210
              clear A210
              by_cases c22 : t271 ≥ 0
              · rw [if_pos c22] at H
                have c22b0 : decide (0 ≤ t271) = true := decide_eq_true c22
                clear c22
                obtain rfl := Option.some.inj H
                have hcz23_0 : wc.cell? ⟨gb275, 0, none⟩ = some (.int .u64 t273) := (blk_cell BK275.out 0).trans rfl
                have hcz23_1 : wc.cell? ⟨gb275, 1, none⟩ = some (.int .u64 t274) := (blk_cell BK275.out 1).trans rfl
                have hfz23_0 := blk_frozen BK275.out 0
                have hfz23_1 := blk_frozen BK275.out 1
                go_wp2_with (first | ((with_reducible refine gate_callee (f := 18) rfl ?_); refine goesL_ (some 28) rfl rfl Try.func18 (by kernel_rfl) rfl #[.agg #[.int .u64 t273, .int .u64 t274]] rfl (by (try simp only [List.map_toArray, List.map_cons, List.map_nil]); first | done | rfl | (simp only [List.length_drop, List.length_take]; rfl)) ?_; (with_reducible refine (set_Set_Count.calls t273 t274 t277 _ A19.out).mono ?_); rintro e w24 ⟨rfl, hb⟩; refine ⟨_, rfl, ?_⟩; have n0_ := Aside0.mk (blk_below (g := gb275) (o := .cells #[.int .u64 t273, .int .u64 t274] 30 (0, 0)) (by (with_reducible repeat (first | refine blk_drewN ?_ _ | refine blk_drew ?_ | refine blk_alloc ?_ _)); exact BK275.out) hb); have n1_ := Aside0.mk (below_step (by repeat (first | (with_reducible first | exact HB.out | apply below_alloc | apply pw_below_drewN | apply below_drew1 | refine below_set ?_ GE275.out) | exact HB.out)) hb); clear BK275; clear HB; have BK275 := n0_; have HB := n1_; clear n0_ n1_; (try clear hb); (try clear hb2); (try clear hk); (try clear hi); have hcz25_0 : w24.cell? ⟨gb275, 0, none⟩ = some (.int .u64 t273) := (blk_cell BK275.out 0).trans rfl; have hcz25_1 : w24.cell? ⟨gb275, 1, none⟩ = some (.int .u64 t274) := (blk_cell BK275.out 1).trans rfl; have hfz25_0 := blk_frozen BK275.out 0; have hfz25_1 := blk_frozen BK275.out 1) | (go_at_call 15; (with_reducible refine (set_Set_Has.calls kj8 t273 t274 a1 t278 _ A21.out).mono ?_); rintro e w26 ⟨rfl, hb⟩; have n0_ := Aside0.mk (blk_below (g := gb275) (o := .cells #[.int .u64 t273, .int .u64 t274] 30 (0, 0)) (by (with_reducible repeat (first | refine blk_drewN ?_ _ | refine blk_drew ?_ | refine blk_alloc ?_ _)); exact BK275.out) hb); have n1_ := Aside0.mk (below_step (by repeat (first | (with_reducible first | exact HB.out | apply below_alloc | apply pw_below_drewN | apply below_drew1 | refine below_set ?_ GE275.out) | exact HB.out)) hb); clear BK275; clear HB; have BK275 := n0_; have HB := n1_; clear n0_ n1_; (try clear hb); (try clear hb2); (try clear hk); (try clear hi)))
                go_ret
                exact ⟨by first | rfl | (simp [errW_none, errW_some] <;> rfl) | (simp [*, errW_none, errW_some] <;> rfl) | (simp [*, errW_none, errW_some]; generalize ByteArray.toList _ = q_; cases q_ <;> rfl), by repeat (first | (with_reducible first | exact HB.out | apply below_alloc | apply pw_below_drewN | apply below_drew1 | refine below_set ?_ GE275.out) | exact HB.out)⟩
              · rw [if_neg c22] at H
                have c22b0 : decide (0 ≤ t271) = false := decide_eq_false c22
                clear c22
                obtain rfl := Option.some.inj H
                have hcz27_0 : wc.cell? ⟨gb275, 0, none⟩ = some (.int .u64 t273) := (blk_cell BK275.out 0).trans rfl
                have hcz27_1 : wc.cell? ⟨gb275, 1, none⟩ = some (.int .u64 t274) := (blk_cell BK275.out 1).trans rfl
                have hfz27_0 := blk_frozen BK275.out 0
                have hfz27_1 := blk_frozen BK275.out 1
                go_wp2_with (first | ((with_reducible refine gate_callee (f := 18) rfl ?_); refine goesL_ (some 28) rfl rfl Try.func18 (by kernel_rfl) rfl #[.agg #[.int .u64 t273, .int .u64 t274]] rfl (by (try simp only [List.map_toArray, List.map_cons, List.map_nil]); first | done | rfl | (simp only [List.length_drop, List.length_take]; rfl)) ?_; (with_reducible refine (set_Set_Count.calls t273 t274 t277 _ A19.out).mono ?_); rintro e w28 ⟨rfl, hb⟩; refine ⟨_, rfl, ?_⟩; have n0_ := Aside0.mk (blk_below (g := gb275) (o := .cells #[.int .u64 t273, .int .u64 t274] 30 (0, 0)) (by (with_reducible repeat (first | refine blk_drewN ?_ _ | refine blk_drew ?_ | refine blk_alloc ?_ _)); exact BK275.out) hb); have n1_ := Aside0.mk (below_step (by repeat (first | (with_reducible first | exact HB.out | apply below_alloc | apply pw_below_drewN | apply below_drew1 | refine below_set ?_ GE275.out) | exact HB.out)) hb); clear BK275; clear HB; have BK275 := n0_; have HB := n1_; clear n0_ n1_; (try clear hb); (try clear hb2); (try clear hk); (try clear hi); have hcz29_0 : w28.cell? ⟨gb275, 0, none⟩ = some (.int .u64 t273) := (blk_cell BK275.out 0).trans rfl; have hcz29_1 : w28.cell? ⟨gb275, 1, none⟩ = some (.int .u64 t274) := (blk_cell BK275.out 1).trans rfl; have hfz29_0 := blk_frozen BK275.out 0; have hfz29_1 := blk_frozen BK275.out 1) | (go_at_call 15; (with_reducible refine (set_Set_Has.calls kj8 t273 t274 a1 t278 _ A21.out).mono ?_); rintro e w30 ⟨rfl, hb⟩; have n0_ := Aside0.mk (blk_below (g := gb275) (o := .cells #[.int .u64 t273, .int .u64 t274] 30 (0, 0)) (by (with_reducible repeat (first | refine blk_drewN ?_ _ | refine blk_drew ?_ | refine blk_alloc ?_ _)); exact BK275.out) hb); have n1_ := Aside0.mk (below_step (by repeat (first | (with_reducible first | exact HB.out | apply below_alloc | apply pw_below_drewN | apply below_drew1 | refine below_set ?_ GE275.out) | exact HB.out)) hb); clear BK275; clear HB; have BK275 := n0_; have HB := n1_; clear n0_ n1_; (try clear hb); (try clear hb2); (try clear hk); (try clear hi)))
                go_ret
                exact ⟨by first | rfl | (simp [errW_none, errW_some] <;> rfl) | (simp [*, errW_none, errW_some] <;> rfl) | (simp [*, errW_none, errW_some]; generalize ByteArray.toList _ = q_; cases q_ <;> rfl), by repeat (first | (with_reducible first | exact HB.out | apply below_alloc | apply pw_below_drewN | apply below_drew1 | refine below_set ?_ GE275.out) | exact HB.out)⟩
            · rw [if_neg c20] at H
              have c20b0 : (t277 == 27) = false := beq_eq_false_iff_ne.mpr c20
              have c20b1 : (t277 != 27) = true := bne_iff_ne.mpr c20
              obtain rfl := Option.some.inj H
              have hcz31_0 : wc.cell? ⟨gb275, 0, none⟩ = some (.int .u64 t273) := (blk_cell BK275.out 0).trans rfl
              have hcz31_1 : wc.cell? ⟨gb275, 1, none⟩ = some (.int .u64 t274) := (blk_cell BK275.out 1).trans rfl
              have hfz31_0 := blk_frozen BK275.out 0
              have hfz31_1 := blk_frozen BK275.out 1
              go_wp2_with (first | ((with_reducible refine gate_callee (f := 18) rfl ?_); refine goesL_ (some 28) rfl rfl Try.func18 (by kernel_rfl) rfl #[.agg #[.int .u64 t273, .int .u64 t274]] rfl (by (try simp only [List.map_toArray, List.map_cons, List.map_nil]); first | done | rfl | (simp only [List.length_drop, List.length_take]; rfl)) ?_; (with_reducible refine (set_Set_Count.calls t273 t274 t277 _ A19.out).mono ?_); rintro e w32 ⟨rfl, hb⟩; refine ⟨_, rfl, ?_⟩; have n0_ := Aside0.mk (blk_below (g := gb275) (o := .cells #[.int .u64 t273, .int .u64 t274] 30 (0, 0)) (by (with_reducible repeat (first | refine blk_drewN ?_ _ | refine blk_drew ?_ | refine blk_alloc ?_ _)); exact BK275.out) hb); have n1_ := Aside0.mk (below_step (by repeat (first | (with_reducible first | exact HB.out | apply below_alloc | apply pw_below_drewN | apply below_drew1 | refine below_set ?_ GE275.out) | exact HB.out)) hb); clear BK275; clear HB; have BK275 := n0_; have HB := n1_; clear n0_ n1_; (try clear hb); (try clear hb2); (try clear hk); (try clear hi)))
              go_ret
              exact ⟨by first | rfl | (simp [errW_none, errW_some] <;> rfl) | (simp [*, errW_none, errW_some] <;> rfl) | (simp [*, errW_none, errW_some]; generalize ByteArray.toList _ = q_; cases q_ <;> rfl), by repeat (first | (with_reducible first | exact HB.out | apply below_alloc | apply pw_below_drewN | apply below_drew1 | refine below_set ?_ GE275.out) | exact HB.out)⟩
    · rw [if_neg c7] at H
      have c7b0 : (t271 == t272) = false := beq_eq_false_iff_ne.mpr c7
      have c7b1 : (t271 != t272) = true := bne_iff_ne.mpr c7
      obtain rfl := Option.some.inj H
      go_enter Try.func7, Try.ntmps7
      go_wp2_with (first | ((with_reducible refine gate_callee (f := 9) rfl ?_); refine goesL_ (some 7) rfl rfl Try.func9 (by kernel_rfl) rfl #[] rfl (by (try simp only [List.map_toArray, List.map_cons, List.map_nil]); first | done | rfl | (simp only [List.length_drop, List.length_take]; rfl)) ?_; (with_reducible refine (kakugyolaw03_steps.calls k  true _ A3.out).mono ?_); rintro e w33 ⟨rfl, hb⟩; refine ⟨_, rfl, ?_⟩; have n0_ := Aside0.mk (below_step (by repeat (first | (with_reducible first | exact HB.out | apply below_alloc | apply pw_below_drewN | apply below_drew1) | exact HB.out)) hb); clear HB; have HB := n0_; clear n0_; (try clear hb); (try clear hb2); (try clear hk); (try clear hi)) | ((with_reducible refine gate_callee (f := 25) rfl ?_); refine goesL_ (some 11) rfl rfl Try.func25 (by kernel_rfl) rfl #[.int .i64 a0, .int .i64 a1] rfl (by (try simp only [List.map_toArray, List.map_cons, List.map_nil]); first | done | rfl | (simp only [List.length_drop, List.length_take]; rfl)) ?_; (with_reducible refine (step_Far.calls k a0 a1 t271 _ A5.out).mono ?_); rintro e w' ⟨rfl, ⟨nd, rfl⟩⟩; refine ⟨_, rfl, ?_⟩) | ((with_reducible refine gate_callee (f := 26) rfl ?_); refine goesL_ (some 15) rfl rfl Try.func26 (by kernel_rfl) rfl #[.int .i64 a0, .int .i64 a1] rfl (by (try simp only [List.map_toArray, List.map_cons, List.map_nil]); first | done | rfl | (simp only [List.length_drop, List.length_take]; rfl)) ?_; (with_reducible refine (kakugyoref03_Far.calls k a0 a1 t272 _ A6.out).mono ?_); rintro e w' ⟨rfl, ⟨nd, rfl⟩⟩; refine ⟨_, rfl, ?_⟩))
      go_ret
      exact ⟨by first | rfl | (simp [errW_none, errW_some] <;> rfl) | (simp [*, errW_none, errW_some] <;> rfl) | (simp [*, errW_none, errW_some]; generalize ByteArray.toList _ = q_; cases q_ <;> rfl), by repeat (first | (with_reducible first | exact HB.out | apply below_alloc | apply pw_below_drewN | apply below_drew1) | exact HB.out)⟩
  · replace c4 := Bool.eq_false_iff.mpr c4
    subst c4
    have H1 : (some false) = some r := by rw [if_neg (show ¬ (false = true) by decide)] at H; exact H
    clear H
    have H := H1
    clear H1
    obtain rfl := Option.some.inj H
    go_enter Try.func7, Try.ntmps7
    go_wp2_with (first | ((with_reducible refine gate_callee (f := 9) rfl ?_); refine goesL_ (some 7) rfl rfl Try.func9 (by kernel_rfl) rfl #[] rfl (by (try simp only [List.map_toArray, List.map_cons, List.map_nil]); first | done | rfl | (simp only [List.length_drop, List.length_take]; rfl)) ?_; (with_reducible refine (kakugyolaw03_steps.calls k  false _ A3.out).mono ?_); rintro e w34 ⟨rfl, hb⟩; refine ⟨_, rfl, ?_⟩; have n0_ := Aside0.mk (below_step (by repeat (first | (with_reducible first | exact HB.out | apply below_alloc | apply pw_below_drewN | apply below_drew1) | exact HB.out)) hb); clear HB; have HB := n0_; clear n0_; (try clear hb); (try clear hb2); (try clear hk); (try clear hi)))
    go_ret
    exact ⟨by first | rfl | (simp [errW_none, errW_some] <;> rfl) | (simp [*, errW_none, errW_some] <;> rfl) | (simp [*, errW_none, errW_some]; generalize ByteArray.toList _ = q_; cases q_ <;> rfl), by repeat (first | (with_reducible first | exact HB.out | apply below_alloc | apply pw_below_drewN | apply below_drew1) | exact HB.out)⟩

/-- THE ONE PURE STATEMENT of kakugyolaw03_StepZone: yours. -/
def kakugyolaw03_StepZone.Pure : Prop := ∀ (a0 : Int) (a1 : Int), (Lit.int .i64 a0).wf = true → (Lit.int .i64 a1).wf = true → ∃ k, kakugyolaw03_StepZone.f k a0 a1 = some true
theorem kakugyolaw03_StepZone.walk (P : kakugyolaw03_StepZone.Pure) (a0 : Int) (a1 : Int) (w : World) (w0 : (Lit.int .i64 a0).wf = true) (w1 : (Lit.int .i64 a1).wf = true) :
    Calls Try.prog 7 #[.int .i64 a0, .int .i64 a1] w fun e w' => e = .returned (.bool true) ∧ Below w.heap.size w w' := by
  obtain ⟨k, h⟩ := P a0 a1 w0 w1
  refine (kakugyolaw03_StepZone.calls k a0 a1 true w h).mono ?_
  rintro e w' ⟨rfl, hd⟩
  exact ⟨rfl, hd⟩

/-! ### ray_Dirs: function 41 -/
def ray_Dirs.j0 : Nat → Int → Bool → Option ((List (S23)))
  | 0, _, _ => none
  | k + 1, x3, x8 => if x8 = true then (some (([(⟨(-1), (-1)⟩ : S23), (⟨1, (-1)⟩ : S23), (⟨(-1), 1⟩ : S23), (⟨1, 1⟩ : S23)] : List (S23)))) else (if x3 = 7 then (some (([(⟨0, (-1)⟩ : S23), (⟨(-1), 0⟩ : S23), (⟨1, 0⟩ : S23), (⟨0, 1⟩ : S23)] : List (S23)))) else (if x3 = 15 then (some (([(⟨0, (-1)⟩ : S23), (⟨(-1), 0⟩ : S23), (⟨1, 0⟩ : S23), (⟨0, 1⟩ : S23)] : List (S23)))) else (some ([] : List (S23)))))
def ray_Dirs.f (k : Nat) (a0 : Int) : Option ((List (S23))) := if a0 = 2 then (some (([(⟨0, (-1)⟩ : S23)] : List (S23)))) else (if a0 = 6 then (ray_Dirs.j0 k a0 (a0 == 6)) else (ray_Dirs.j0 k a0 (a0 == 14)))
theorem ray_Dirs.mono_l : ∀ k, (∀ y0 y1, LeO (ray_Dirs.j0 k y0 y1) (ray_Dirs.j0 (k + 1) y0 y1))
  | 0 => fun _ _ r h => by simp [ray_Dirs.j0] at h
  | k + 1 => by
    have ih0 := ray_Dirs.mono_l k
    · intro y0 y1
      unfold ray_Dirs.j0
      repeat' first
      | (with_reducible exact ih0 _ _)
      | (with_reducible exact LeO.refl _)
      | (with_reducible exact LeO.none _)
      | (with_reducible refine LeO.ite ?_ ?_)
      | (with_reducible refine LeO.bind ?_ (fun _ => ?_))
      | exact ih0 _ _
      | exact LeO.none _
      | refine LeO.ite ?_ ?_
      | refine LeO.bind ?_ (fun _ => ?_)
theorem ray_Dirs.mono : ∀ a0 k, LeO (ray_Dirs.f k a0) (ray_Dirs.f (k + 1) a0) := by
  intro a0 k
  have ih0 := ray_Dirs.mono_l k
  unfold ray_Dirs.f
  repeat' first
      | (with_reducible exact ih0 _ _)
      | (with_reducible exact LeO.refl _)
      | (with_reducible exact LeO.none _)
      | (with_reducible refine LeO.ite ?_ ?_)
      | (with_reducible refine LeO.bind ?_ (fun _ => ?_))
      | exact ih0 _ _
      | exact LeO.none _
      | refine LeO.ite ?_ ?_
      | refine LeO.bind ?_ (fun _ => ?_)
set_option maxHeartbeats 8000000 in
set_option maxRecDepth 100000 in
theorem ray_Dirs.calls (k : Nat) (a0 : Int) (r : List (S23)) (w : World) (h : ray_Dirs.f k a0 = some r) :
    Calls Try.prog 41 #[.int .i64 a0] w fun e w' => ∃ v0_ : Value, e = .returned (v0_) ∧ Kd.R k23 23 w' w.heap.size (fun _ => True) v0_ r ∧ Below w.heap.size w w' := by
  have hu23 := Try.underlying23
  have HB := Aside0.mk (Below.refl w.heap.size w)
  have H : (if a0 = 2 then (some (([(⟨0, (-1)⟩ : S23)] : List (S23)))) else (if a0 = 6 then (ray_Dirs.j0 k a0 (a0 == 6)) else (ray_Dirs.j0 k a0 (a0 == 14)))) = some r := h
  clear h
  by_cases c2 : a0 = 2
  · rw [if_pos c2] at H
    have c2b0 : (a0 == 2) = true := beq_iff_eq.mpr c2
    have c2b1 : (a0 != 2) = false := bne_eq_false_iff_eq.mpr c2
    clear c2
    obtain ⟨y279, hy279⟩ : ∃ y_ : List (S23), y_ = (([(⟨0, (-1)⟩ : S23)] : List (S23))) := ⟨_, rfl⟩
    replace H : (some y279) = some r := by first | (rw [hy279]; with_reducible exact H) | (have H2_ := (Option.bind_some _ _).symm.trans H; rw [hy279]; with_reducible exact H2_) | (have H2_ := (Option.bind_some _ _).symm.trans H; with_reducible exact H2_) | with_reducible exact H | (rw [hy279]; exact H) | exact H
    have Ny279 := Aside0.mk hy279
    clear hy279
    obtain rfl := Option.some.inj H
    go_enter Try.func41, Try.ntmps41
    go_wp2_with (first | ((with_reducible refine gate_dst (N := 7) rfl ?_); refine Kd.R_lit k23 _ 23 ?hg (N := 7) ?hd (xs := ([(⟨0, (-1)⟩ : S23)] : List (S23))) (inner := [.int .i64 0, .int .i64 (-1)]) (ok := fun _ => True) (okp := fun _ => True) ?hr ?hp (fun _ hk => hk) trivial (Below.refl _ _) (Nat.le_refl _) (by simp) ?_; (case hd => rfl); (case hg => rfl); (case hr => first | (go_simp; done) | (go_simp; rfl)); (case hp => exact (Reps.c2 (show Kd.M k23 _ _ _ (⟨0, (-1)⟩ : S23) [.int .i64 0, .int .i64 (-1)] from (k23_mkM _ _ _ (⟨0, (-1)⟩ : S23) )) (Reps.none _ _))); intro v280 w3 ho4 hb hg_ hnew_; clear hg_ hnew_; (first | rw [← Ny279.out] at ho4 | (simp only [Int.reduceToNat] at ho4; rw [← Ny279.out] at ho4)); have n0_ := Aside0.mk (Kd.R_lower ho4 (below_size (by repeat (first | (with_reducible first | exact HB.out | apply below_alloc | apply pw_below_drewN | apply below_drew1) | exact HB.out)))); have n1_ := Aside0.mk (below_step (by repeat (first | (with_reducible first | exact HB.out | apply below_alloc | apply pw_below_drewN | apply below_drew1) | exact HB.out)) hb); clear HB; have HO281 := n0_; have HB := n1_; clear n0_ n1_; clear hb ho4))
    go_ret
    exact ⟨_, by first | rfl | (simp [errW_none, errW_some] <;> rfl) | (simp [*, errW_none, errW_some] <;> rfl), by (with_reducible repeat (first | apply Kd.R_alloc | apply Kd.R_drewN | apply Kd.R_drew)); exact HO281.out, by repeat (first | (with_reducible first | exact HB.out | apply below_alloc | apply pw_below_drewN | apply below_drew1) | exact HB.out)⟩
  · rw [if_neg c2] at H
    have c2b0 : (a0 == 2) = false := beq_eq_false_iff_ne.mpr c2
    have c2b1 : (a0 != 2) = true := bne_iff_ne.mpr c2
    have HC5 := Aside0.mk H
    clear H
    go_enter Try.func41, Try.ntmps41
    go_upto_if 8 with (fail)
    go_cut [8] (fun v8 wc => ∃ (kq : Nat) (x8_4 : Bool), v8 = .bool x8_4 ∧ Aside0 (ray_Dirs.j0 kq a0 x8_4 = some r) ∧ Aside0 (kq ≤ k) ∧ Aside0 (Below w.heap.size w wc))
    case first =>
      have H := HC5.out
      clear HC5
      by_cases c6 : a0 = 6
      · rw [if_pos c6] at H
        have c6b0 : (a0 == 6) = true := beq_iff_eq.mpr c6
        have c6b1 : (a0 != 6) = false := bne_eq_false_iff_eq.mpr c6
        clear c6
        (first | rw [c6b0] | (simp only [i64_w, i32_w]; rw [c6b0]) | skip)
        have H' := Aside0.mk H
        clear H
        go_wp2
        go_meet
        case rel => exact ⟨_, ((a0 == 6)), (by first | rfl | (simp; done) | (simp [*]; done)), H', ⟨by first | omega | exact Nat.le_refl _⟩, ⟨by repeat (first | (with_reducible first | exact HB.out | apply below_alloc | apply pw_below_drewN | apply below_drew1) | exact HB.out)⟩⟩
      · rw [if_neg c6] at H
        have c6b0 : (a0 == 6) = false := beq_eq_false_iff_ne.mpr c6
        have c6b1 : (a0 != 6) = true := bne_iff_ne.mpr c6
        (first | rw [c6b0] | (simp only [i64_w, i32_w]; rw [c6b0]) | skip)
        have H' := Aside0.mk H
        clear H
        go_wp2
        go_meet
        case rel => exact ⟨_, ((a0 == 14)), (by first | rfl | (simp; done) | (simp [*]; done)), H', ⟨by first | omega | exact Nat.le_refl _⟩, ⟨by repeat (first | (with_reducible first | exact HB.out | apply below_alloc | apply pw_below_drewN | apply below_drew1) | exact HB.out)⟩⟩
    case rest =>
      clear HC5
      try clear c2
      try clear c2b0
      try clear c2b1
      try clear p2
      try clear c4
      try clear c6
      try clear c6b0
      try clear c6b1
      obtain ⟨kq, x8_4, rfl, HA, HJ4, HB⟩ := hcut
      cases kq with
      | zero => exact absurd HA.out (by simp [ray_Dirs.j0])
      | succ kj4 =>
        have H := HA.out
        clear HA
        simp only [ray_Dirs.j0] at H
        by_cases c7 : x8_4 = true
        · subst c7
          have H1 : (some (([(⟨(-1), (-1)⟩ : S23), (⟨1, (-1)⟩ : S23), (⟨(-1), 1⟩ : S23), (⟨1, 1⟩ : S23)] : List (S23)))) = some r := by rw [if_pos rfl] at H; exact H
          clear H
          have H := H1
          clear H1
          obtain ⟨y282, hy282⟩ : ∃ y_ : List (S23), y_ = (([(⟨(-1), (-1)⟩ : S23), (⟨1, (-1)⟩ : S23), (⟨(-1), 1⟩ : S23), (⟨1, 1⟩ : S23)] : List (S23))) := ⟨_, rfl⟩
          replace H : (some y282) = some r := by first | (rw [hy282]; with_reducible exact H) | (have H2_ := (Option.bind_some _ _).symm.trans H; rw [hy282]; with_reducible exact H2_) | (have H2_ := (Option.bind_some _ _).symm.trans H; with_reducible exact H2_) | with_reducible exact H | (rw [hy282]; exact H) | exact H
          have Ny282 := Aside0.mk hy282
          clear hy282
          obtain rfl := Option.some.inj H
          go_wp2_with (first | ((with_reducible refine gate_dst (N := 15) rfl ?_); refine Kd.R_lit k23 _ 23 ?hg (N := 15) ?hd (xs := ([(⟨(-1), (-1)⟩ : S23), (⟨1, (-1)⟩ : S23), (⟨(-1), 1⟩ : S23), (⟨1, 1⟩ : S23)] : List (S23))) (inner := [.int .i64 (-1), .int .i64 (-1), .int .i64 1, .int .i64 (-1), .int .i64 (-1), .int .i64 1, .int .i64 1, .int .i64 1]) (ok := fun _ => True) (okp := fun _ => True) ?hr ?hp (fun _ hk => hk) trivial (Below.refl _ _) (Nat.le_refl _) (by simp) ?_; (case hd => rfl); (case hg => rfl); (case hr => first | (go_simp; done) | (go_simp; rfl)); (case hp => exact (Reps.c2 (show Kd.M k23 _ _ _ (⟨(-1), (-1)⟩ : S23) [.int .i64 (-1), .int .i64 (-1)] from (k23_mkM _ _ _ (⟨(-1), (-1)⟩ : S23) )) (Reps.c2 (show Kd.M k23 _ _ _ (⟨1, (-1)⟩ : S23) [.int .i64 1, .int .i64 (-1)] from (k23_mkM _ _ _ (⟨1, (-1)⟩ : S23) )) (Reps.c2 (show Kd.M k23 _ _ _ (⟨(-1), 1⟩ : S23) [.int .i64 (-1), .int .i64 1] from (k23_mkM _ _ _ (⟨(-1), 1⟩ : S23) )) (Reps.c2 (show Kd.M k23 _ _ _ (⟨1, 1⟩ : S23) [.int .i64 1, .int .i64 1] from (k23_mkM _ _ _ (⟨1, 1⟩ : S23) )) (Reps.none _ _)))))); intro v283 w8 ho9 hb hg_ hnew_; clear hg_ hnew_; (first | rw [← Ny282.out] at ho9 | (simp only [Int.reduceToNat] at ho9; rw [← Ny282.out] at ho9)); have n0_ := Aside0.mk (Kd.R_lower ho9 (below_size (by repeat (first | (with_reducible first | exact HB.out | apply below_alloc | apply pw_below_drewN | apply below_drew1) | exact HB.out)))); have n1_ := Aside0.mk (below_step (by repeat (first | (with_reducible first | exact HB.out | apply below_alloc | apply pw_below_drewN | apply below_drew1) | exact HB.out)) hb); clear HB; have HO284 := n0_; have HB := n1_; clear n0_ n1_; clear hb ho9))
          go_ret
          exact ⟨_, by first | rfl | (simp [errW_none, errW_some] <;> rfl) | (simp [*, errW_none, errW_some] <;> rfl), by (with_reducible repeat (first | apply Kd.R_alloc | apply Kd.R_drewN | apply Kd.R_drew)); exact HO284.out, by repeat (first | (with_reducible first | exact HB.out | apply below_alloc | apply pw_below_drewN | apply below_drew1) | exact HB.out)⟩
        · replace c7 := Bool.eq_false_iff.mpr c7
          subst c7
          have H1 : (if a0 = 7 then (some (([(⟨0, (-1)⟩ : S23), (⟨(-1), 0⟩ : S23), (⟨1, 0⟩ : S23), (⟨0, 1⟩ : S23)] : List (S23)))) else (if a0 = 15 then (some (([(⟨0, (-1)⟩ : S23), (⟨(-1), 0⟩ : S23), (⟨1, 0⟩ : S23), (⟨0, 1⟩ : S23)] : List (S23)))) else (some ([] : List (S23))))) = some r := by rw [if_neg (show ¬ (false = true) by decide)] at H; exact H
          clear H
          have H := H1
          clear H1
          by_cases c10 : a0 = 7
          · rw [if_pos c10] at H
            have c10b0 : (a0 == 7) = true := beq_iff_eq.mpr c10
            have c10b1 : (a0 != 7) = false := bne_eq_false_iff_eq.mpr c10
            clear c10
            obtain ⟨y285, hy285⟩ : ∃ y_ : List (S23), y_ = (([(⟨0, (-1)⟩ : S23), (⟨(-1), 0⟩ : S23), (⟨1, 0⟩ : S23), (⟨0, 1⟩ : S23)] : List (S23))) := ⟨_, rfl⟩
            replace H : (some y285) = some r := by first | (rw [hy285]; with_reducible exact H) | (have H2_ := (Option.bind_some _ _).symm.trans H; rw [hy285]; with_reducible exact H2_) | (have H2_ := (Option.bind_some _ _).symm.trans H; with_reducible exact H2_) | with_reducible exact H | (rw [hy285]; exact H) | exact H
            have Ny285 := Aside0.mk hy285
            clear hy285
            obtain rfl := Option.some.inj H
            go_wp2_with (first | ((with_reducible refine gate_dst (N := 23) rfl ?_); refine Kd.R_lit k23 _ 23 ?hg (N := 23) ?hd (xs := ([(⟨0, (-1)⟩ : S23), (⟨(-1), 0⟩ : S23), (⟨1, 0⟩ : S23), (⟨0, 1⟩ : S23)] : List (S23))) (inner := [.int .i64 0, .int .i64 (-1), .int .i64 (-1), .int .i64 0, .int .i64 1, .int .i64 0, .int .i64 0, .int .i64 1]) (ok := fun _ => True) (okp := fun _ => True) ?hr ?hp (fun _ hk => hk) trivial (Below.refl _ _) (Nat.le_refl _) (by simp) ?_; (case hd => rfl); (case hg => rfl); (case hr => first | (go_simp; done) | (go_simp; rfl)); (case hp => exact (Reps.c2 (show Kd.M k23 _ _ _ (⟨0, (-1)⟩ : S23) [.int .i64 0, .int .i64 (-1)] from (k23_mkM _ _ _ (⟨0, (-1)⟩ : S23) )) (Reps.c2 (show Kd.M k23 _ _ _ (⟨(-1), 0⟩ : S23) [.int .i64 (-1), .int .i64 0] from (k23_mkM _ _ _ (⟨(-1), 0⟩ : S23) )) (Reps.c2 (show Kd.M k23 _ _ _ (⟨1, 0⟩ : S23) [.int .i64 1, .int .i64 0] from (k23_mkM _ _ _ (⟨1, 0⟩ : S23) )) (Reps.c2 (show Kd.M k23 _ _ _ (⟨0, 1⟩ : S23) [.int .i64 0, .int .i64 1] from (k23_mkM _ _ _ (⟨0, 1⟩ : S23) )) (Reps.none _ _)))))); intro v286 w11 ho12 hb hg_ hnew_; clear hg_ hnew_; (first | rw [← Ny285.out] at ho12 | (simp only [Int.reduceToNat] at ho12; rw [← Ny285.out] at ho12)); have n0_ := Aside0.mk (Kd.R_lower ho12 (below_size (by repeat (first | (with_reducible first | exact HB.out | apply below_alloc | apply pw_below_drewN | apply below_drew1) | exact HB.out)))); have n1_ := Aside0.mk (below_step (by repeat (first | (with_reducible first | exact HB.out | apply below_alloc | apply pw_below_drewN | apply below_drew1) | exact HB.out)) hb); clear HB; have HO287 := n0_; have HB := n1_; clear n0_ n1_; clear hb ho12))
            go_ret
            exact ⟨_, by first | rfl | (simp [errW_none, errW_some] <;> rfl) | (simp [*, errW_none, errW_some] <;> rfl), by (with_reducible repeat (first | apply Kd.R_alloc | apply Kd.R_drewN | apply Kd.R_drew)); exact HO287.out, by repeat (first | (with_reducible first | exact HB.out | apply below_alloc | apply pw_below_drewN | apply below_drew1) | exact HB.out)⟩
          · rw [if_neg c10] at H
            have c10b0 : (a0 == 7) = false := beq_eq_false_iff_ne.mpr c10
            have c10b1 : (a0 != 7) = true := bne_iff_ne.mpr c10
            by_cases c13 : a0 = 15
            · rw [if_pos c13] at H
              have c13b0 : (a0 == 15) = true := beq_iff_eq.mpr c13
              have c13b1 : (a0 != 15) = false := bne_eq_false_iff_eq.mpr c13
              clear c13
              obtain ⟨y288, hy288⟩ : ∃ y_ : List (S23), y_ = (([(⟨0, (-1)⟩ : S23), (⟨(-1), 0⟩ : S23), (⟨1, 0⟩ : S23), (⟨0, 1⟩ : S23)] : List (S23))) := ⟨_, rfl⟩
              replace H : (some y288) = some r := by first | (rw [hy288]; with_reducible exact H) | (have H2_ := (Option.bind_some _ _).symm.trans H; rw [hy288]; with_reducible exact H2_) | (have H2_ := (Option.bind_some _ _).symm.trans H; with_reducible exact H2_) | with_reducible exact H | (rw [hy288]; exact H) | exact H
              have Ny288 := Aside0.mk hy288
              clear hy288
              obtain rfl := Option.some.inj H
              go_wp2_with (first | ((with_reducible refine gate_dst (N := 23) rfl ?_); refine Kd.R_lit k23 _ 23 ?hg (N := 23) ?hd (xs := ([(⟨0, (-1)⟩ : S23), (⟨(-1), 0⟩ : S23), (⟨1, 0⟩ : S23), (⟨0, 1⟩ : S23)] : List (S23))) (inner := [.int .i64 0, .int .i64 (-1), .int .i64 (-1), .int .i64 0, .int .i64 1, .int .i64 0, .int .i64 0, .int .i64 1]) (ok := fun _ => True) (okp := fun _ => True) ?hr ?hp (fun _ hk => hk) trivial (Below.refl _ _) (Nat.le_refl _) (by simp) ?_; (case hd => rfl); (case hg => rfl); (case hr => first | (go_simp; done) | (go_simp; rfl)); (case hp => exact (Reps.c2 (show Kd.M k23 _ _ _ (⟨0, (-1)⟩ : S23) [.int .i64 0, .int .i64 (-1)] from (k23_mkM _ _ _ (⟨0, (-1)⟩ : S23) )) (Reps.c2 (show Kd.M k23 _ _ _ (⟨(-1), 0⟩ : S23) [.int .i64 (-1), .int .i64 0] from (k23_mkM _ _ _ (⟨(-1), 0⟩ : S23) )) (Reps.c2 (show Kd.M k23 _ _ _ (⟨1, 0⟩ : S23) [.int .i64 1, .int .i64 0] from (k23_mkM _ _ _ (⟨1, 0⟩ : S23) )) (Reps.c2 (show Kd.M k23 _ _ _ (⟨0, 1⟩ : S23) [.int .i64 0, .int .i64 1] from (k23_mkM _ _ _ (⟨0, 1⟩ : S23) )) (Reps.none _ _)))))); intro v289 w14 ho15 hb hg_ hnew_; clear hg_ hnew_; (first | rw [← Ny288.out] at ho15 | (simp only [Int.reduceToNat] at ho15; rw [← Ny288.out] at ho15)); have n0_ := Aside0.mk (Kd.R_lower ho15 (below_size (by repeat (first | (with_reducible first | exact HB.out | apply below_alloc | apply pw_below_drewN | apply below_drew1) | exact HB.out)))); have n1_ := Aside0.mk (below_step (by repeat (first | (with_reducible first | exact HB.out | apply below_alloc | apply pw_below_drewN | apply below_drew1) | exact HB.out)) hb); clear HB; have HO290 := n0_; have HB := n1_; clear n0_ n1_; clear hb ho15))
              go_ret
              exact ⟨_, by first | rfl | (simp [errW_none, errW_some] <;> rfl) | (simp [*, errW_none, errW_some] <;> rfl), by (with_reducible repeat (first | apply Kd.R_alloc | apply Kd.R_drewN | apply Kd.R_drew)); exact HO290.out, by repeat (first | (with_reducible first | exact HB.out | apply below_alloc | apply pw_below_drewN | apply below_drew1) | exact HB.out)⟩
            · rw [if_neg c13] at H
              have c13b0 : (a0 == 15) = false := beq_eq_false_iff_ne.mpr c13
              have c13b1 : (a0 != 15) = true := bne_iff_ne.mpr c13
              obtain rfl := Option.some.inj H
              go_wp2
              go_ret
              exact ⟨_, by first | rfl | (simp [errW_none, errW_some] <;> rfl) | (simp [*, errW_none, errW_some] <;> rfl), by first | exact Kd.R_nil _ _ _ _ _ | exact Kd.N_nil _ _ _ _ _ | exact Kd.V_nil _ _ _ _ _ | exact Kd.Q_nil _ _ _ _ _ | exact Kd.S_nil _ _ _ _ _, by repeat (first | (with_reducible first | exact HB.out | apply below_alloc | apply pw_below_drewN | apply below_drew1) | exact HB.out)⟩

/-! ### ray_Way: function 42 -/
def ray_Way.l0 : Nat → Int → Int → Int → Int → Int → Int → Int → Option (Int × Int)
  | 0, _, _, _, _, _, _, _ => none
  | k + 1, x0, x292000, x292001, x293000, x293001, x295000, x295001 => if x0 ≥ 0 then ((set_Set_With.f k x295000 x295001 x0).bind fun bt296 => ((set_Set_Has.f k x293000 x293001 x0).bind fun t298 => (if t298 = true then (some (bt296.1, bt296.2)) else ((step_Dir_From.f x292000 x292001 x0).bind fun t299 => (ray_Way.l0 k t299 x292000 x292001 x293000 x293001 bt296.1 bt296.2))))) else (some (x295000, x295001))
def ray_Way.f (k : Nat) (a0 : Int) (a1_0 : Int) (a1_1 : Int) (a2_0 : Int) (a2_1 : Int) : Option (Int × Int) := if (a1_0 == 0 && (a1_1 == 0)) = true then (some (0, 0)) else ((step_Dir_From.f a1_0 a1_1 a0).bind fun t295 => (ray_Way.l0 k t295 a1_0 a1_1 a2_0 a2_1 0 0))
theorem ray_Way.mono_l : ∀ k, (∀ y0 y1 y2 y3 y4 y5 y6, LeO (ray_Way.l0 k y0 y1 y2 y3 y4 y5 y6) (ray_Way.l0 (k + 1) y0 y1 y2 y3 y4 y5 y6))
  | 0 => fun _ _ _ _ _ _ _ r h => by simp [ray_Way.l0] at h
  | k + 1 => by
    have ih0 := ray_Way.mono_l k
    · intro y0 y1 y2 y3 y4 y5 y6
      unfold ray_Way.l0
      repeat' first
      | (with_reducible exact ih0 _ _ _ _ _ _ _)
      | (with_reducible exact set_Set_Has.mono _ _ _ _)
      | (with_reducible exact set_Set_With.mono _ _ _ _)
      | (with_reducible exact LeO.refl _)
      | (with_reducible exact LeO.none _)
      | (with_reducible refine LeO.ite ?_ ?_)
      | (with_reducible refine LeO.bind ?_ (fun _ => ?_))
      | exact ih0 _ _ _ _ _ _ _
      | exact set_Set_Has.mono _ _ _ _
      | exact set_Set_With.mono _ _ _ _
      | exact LeO.none _
      | refine LeO.ite ?_ ?_
      | refine LeO.bind ?_ (fun _ => ?_)
theorem ray_Way.mono : ∀ a0 a1 a2 a3 a4 k, LeO (ray_Way.f k a0 a1 a2 a3 a4) (ray_Way.f (k + 1) a0 a1 a2 a3 a4) := by
  intro a0 a1 a2 a3 a4 k
  have ih0 := ray_Way.mono_l k
  unfold ray_Way.f
  repeat' first
      | (with_reducible exact ih0 _ _ _ _ _ _ _)
      | (with_reducible exact set_Set_Has.mono _ _ _ _)
      | (with_reducible exact set_Set_With.mono _ _ _ _)
      | (with_reducible exact LeO.refl _)
      | (with_reducible exact LeO.none _)
      | (with_reducible refine LeO.ite ?_ ?_)
      | (with_reducible refine LeO.bind ?_ (fun _ => ?_))
      | exact ih0 _ _ _ _ _ _ _
      | exact set_Set_Has.mono _ _ _ _
      | exact set_Set_With.mono _ _ _ _
      | exact LeO.none _
      | refine LeO.ite ?_ ?_
      | refine LeO.bind ?_ (fun _ => ?_)
set_option maxHeartbeats 8000000 in
set_option maxRecDepth 100000 in
theorem ray_Way.calls (k : Nat) (a0 : Int) (a1_0 : Int) (a1_1 : Int) (a2_0 : Int) (a2_1 : Int) (r1 : Int) (r2 : Int) (w : World) (h : ray_Way.f k a0 a1_0 a1_1 a2_0 a2_1 = some (r1, r2)) :
    Calls Try.prog 42 #[.int .i64 a0, .agg #[.int .i64 a1_0, .int .i64 a1_1], .agg #[.int .u64 a2_0, .int .u64 a2_1]] w fun e w' => e = .returned (.agg #[.int .u64 r1, .int .u64 r2]) ∧ Below w.heap.size w w' := by
  have hu23 := Try.underlying23
  have hu30 := Try.underlying30
  have HB := Aside0.mk (Below.refl w.heap.size w)
  have H : (if (a1_0 == 0 && (a1_1 == 0)) = true then (some (0, 0)) else ((step_Dir_From.f a1_0 a1_1 a0).bind fun t295 => (ray_Way.l0 k t295 a1_0 a1_1 a2_0 a2_1 0 0))) = some (r1, r2) := h
  clear h
  by_cases c4 : (a1_0 == 0 && (a1_1 == 0)) = true
  · rw [if_pos c4] at H
    have c4b0 : (a1_0 == 0 && (a1_1 == 0)) = true := c4
    (try (have c4b1 : decide (a1_0 = 0 && (a1_1 == 0)) = true := by simpa using c4))
    (try (have c4b2 : (a1_0 == 0 && (a1_1 == 0)) = true := by simpa using c4))
    clear c4
    simp only [Option.some.injEq, Prod.mk.injEq] at H
    obtain ⟨rfl, rfl⟩ := H
    go_enter Try.func42, Try.ntmps42
    go_wp2_with (first | ((with_reducible refine gate_dst (N := 4) rfl ?_); refine box_event ?hg (N := 4) ?hd (cs := #[.int .i64 a1_0, .int .i64 a1_1]) (t := 23) ?hr ?_; (case hd => rfl); (case hg => rfl); (case hr => first | (go_simp; done) | (go_simp; rfl)); intro gb291 hg w5 hbox hb; have n0_ := Aside0.mk (below_step (by repeat (first | (with_reducible first | exact HB.out | apply below_alloc | apply pw_below_drewN | apply below_drew1) | exact HB.out)) hb); have n1_ := Aside0.mk (hbox); have n2_ := Aside0.mk ((by rw [hg]; exact (below_size (by repeat (first | (with_reducible first | exact HB.out | apply below_alloc | apply pw_below_drewN | apply below_drew1) | exact HB.out))) : w.heap.size ≤ gb291)); have n3_ := Aside0.mk ((by rw [hg]; exact (below_size (by repeat (first | (with_reducible first | exact HB.out | apply below_alloc | apply pw_below_drewN | apply below_drew1) | exact HB.out))) : w.heap.size ≤ gb291)); clear HB; have HB := n0_; have BK291 := n1_; have GW291 := n2_; have GE291 := n3_; clear n0_ n1_ n2_ n3_; clear hb hbox hg) | ((with_reducible refine gate_dst (N := 5) rfl ?_); refine box_event ?hg (N := 5) ?hd (cs := #[.int .u64 a2_0, .int .u64 a2_1]) (t := 30) ?hr ?_; (case hd => rfl); (case hg => rfl); (case hr => first | (go_simp; done) | (go_simp; rfl)); intro gb292 hg w6 hbox hb; have n0_ := Aside0.mk (blk_below (g := gb291) (o := .cells #[.int .i64 a1_0, .int .i64 a1_1] 23 (0, 0)) (by (with_reducible repeat (first | refine blk_drewN ?_ _ | refine blk_drew ?_ | refine blk_alloc ?_ _)); exact BK291.out) hb); have n1_ := Aside0.mk (below_step (by repeat (first | (with_reducible first | exact HB.out | apply below_alloc | apply pw_below_drewN | apply below_drew1 | refine below_set ?_ GE291.out) | exact HB.out)) hb); have n2_ := Aside0.mk (hbox); have n3_ := Aside0.mk ((by rw [hg]; exact (below_size (by repeat (first | (with_reducible first | exact HB.out | apply below_alloc | apply pw_below_drewN | apply below_drew1 | refine below_set ?_ GE291.out) | exact HB.out))) : w.heap.size ≤ gb292)); have n4_ := Aside0.mk ((by rw [hg]; exact (below_size (by repeat (first | (with_reducible first | exact HB.out | apply below_alloc | apply pw_below_drewN | apply below_drew1 | refine below_set ?_ GE291.out) | exact HB.out))) : w.heap.size ≤ gb292)); have n5_ := Aside0.mk ((by rw [hg]; exact Nat.ne_of_lt (blk_lt (g := gb291) (o := .cells #[.int .i64 a1_0, .int .i64 a1_1] 23 (0, 0)) (by (with_reducible repeat (first | refine blk_drewN ?_ _ | refine blk_drew ?_ | refine blk_alloc ?_ _)); exact BK291.out)) : gb291 ≠ gb292)); have n6_ := Aside0.mk ((by rw [hg]; exact Nat.ne_of_gt (blk_lt (g := gb291) (o := .cells #[.int .i64 a1_0, .int .i64 a1_1] 23 (0, 0)) (by (with_reducible repeat (first | refine blk_drewN ?_ _ | refine blk_drew ?_ | refine blk_alloc ?_ _)); exact BK291.out)) : gb292 ≠ gb291)); clear BK291; clear HB; have BK291 := n0_; have HB := n1_; have BK292 := n2_; have GW292 := n3_; have GE292 := n4_; have NB291_292 := n5_; have NB292_291 := n6_; clear n0_ n1_ n2_ n3_ n4_ n5_ n6_; clear hb hbox hg) | ((with_reducible refine gate_dst (N := 6) rfl ?_); refine box_event ?hg (N := 6) ?hd (cs := #[.int .u64 0, .int .u64 0]) (t := 30) ?hr ?_; (case hd => rfl); (case hg => rfl); (case hr => first | (go_simp; done) | (go_simp; rfl)); intro gb293 hg w7 hbox hb; have n0_ := Aside0.mk (blk_below (g := gb291) (o := .cells #[.int .i64 a1_0, .int .i64 a1_1] 23 (0, 0)) (by (with_reducible repeat (first | refine blk_drewN ?_ _ | refine blk_drew ?_ | refine blk_alloc ?_ _)); exact BK291.out) hb); have n1_ := Aside0.mk (blk_below (g := gb292) (o := .cells #[.int .u64 a2_0, .int .u64 a2_1] 30 (0, 0)) (by (with_reducible repeat (first | refine blk_drewN ?_ _ | refine blk_drew ?_ | refine blk_alloc ?_ _)); exact BK292.out) hb); have n2_ := Aside0.mk (below_step (by repeat (first | (with_reducible first | exact HB.out | apply below_alloc | apply pw_below_drewN | apply below_drew1 | refine below_set ?_ GE291.out | refine below_set ?_ GE292.out) | exact HB.out)) hb); have n3_ := Aside0.mk (hbox); have n4_ := Aside0.mk ((by rw [hg]; exact (below_size (by repeat (first | (with_reducible first | exact HB.out | apply below_alloc | apply pw_below_drewN | apply below_drew1 | refine below_set ?_ GE291.out | refine below_set ?_ GE292.out) | exact HB.out))) : w.heap.size ≤ gb293)); have n5_ := Aside0.mk ((by rw [hg]; exact (below_size (by repeat (first | (with_reducible first | exact HB.out | apply below_alloc | apply pw_below_drewN | apply below_drew1 | refine below_set ?_ GE291.out | refine below_set ?_ GE292.out) | exact HB.out))) : w.heap.size ≤ gb293)); have n6_ := Aside0.mk ((by rw [hg]; exact Nat.ne_of_lt (blk_lt (g := gb291) (o := .cells #[.int .i64 a1_0, .int .i64 a1_1] 23 (0, 0)) (by (with_reducible repeat (first | refine blk_drewN ?_ _ | refine blk_drew ?_ | refine blk_alloc ?_ _)); exact BK291.out)) : gb291 ≠ gb293)); have n7_ := Aside0.mk ((by rw [hg]; exact Nat.ne_of_gt (blk_lt (g := gb291) (o := .cells #[.int .i64 a1_0, .int .i64 a1_1] 23 (0, 0)) (by (with_reducible repeat (first | refine blk_drewN ?_ _ | refine blk_drew ?_ | refine blk_alloc ?_ _)); exact BK291.out)) : gb293 ≠ gb291)); have n8_ := Aside0.mk ((by rw [hg]; exact Nat.ne_of_lt (blk_lt (g := gb292) (o := .cells #[.int .u64 a2_0, .int .u64 a2_1] 30 (0, 0)) (by (with_reducible repeat (first | refine blk_drewN ?_ _ | refine blk_drew ?_ | refine blk_alloc ?_ _)); exact BK292.out)) : gb292 ≠ gb293)); have n9_ := Aside0.mk ((by rw [hg]; exact Nat.ne_of_gt (blk_lt (g := gb292) (o := .cells #[.int .u64 a2_0, .int .u64 a2_1] 30 (0, 0)) (by (with_reducible repeat (first | refine blk_drewN ?_ _ | refine blk_drew ?_ | refine blk_alloc ?_ _)); exact BK292.out)) : gb293 ≠ gb292)); clear BK291; clear BK292; clear HB; have BK291 := n0_; have BK292 := n1_; have HB := n2_; have BK293 := n3_; have GW293 := n4_; have GE293 := n5_; have NB291_293 := n6_; have NB293_291 := n7_; have NB292_293 := n8_; have NB293_292 := n9_; clear n0_ n1_ n2_ n3_ n4_ n5_ n6_ n7_ n8_ n9_; clear hb hbox hg) | ((with_reducible refine gate_dst (N := 7) rfl ?_); refine box_event ?hg (N := 7) ?hd (cs := #[.int .u64 0, .int .u64 0]) (t := 30) ?hr ?_; (case hd => rfl); (case hg => rfl); (case hr => first | (go_simp; done) | (go_simp; rfl)); intro gb294 hg w8 hbox hb; have n0_ := Aside0.mk (blk_below (g := gb291) (o := .cells #[.int .i64 a1_0, .int .i64 a1_1] 23 (0, 0)) (by (with_reducible repeat (first | refine blk_drewN ?_ _ | refine blk_drew ?_ | refine blk_alloc ?_ _)); exact BK291.out) hb); have n1_ := Aside0.mk (blk_below (g := gb292) (o := .cells #[.int .u64 a2_0, .int .u64 a2_1] 30 (0, 0)) (by (with_reducible repeat (first | refine blk_drewN ?_ _ | refine blk_drew ?_ | refine blk_alloc ?_ _)); exact BK292.out) hb); have n2_ := Aside0.mk (blk_below (g := gb293) (o := .cells #[.int .u64 0, .int .u64 0] 30 (0, 0)) (by (with_reducible repeat (first | refine blk_drewN ?_ _ | refine blk_drew ?_ | refine blk_alloc ?_ _)); exact BK293.out) hb); have n3_ := Aside0.mk (below_step (by repeat (first | (with_reducible first | exact HB.out | apply below_alloc | apply pw_below_drewN | apply below_drew1 | refine below_set ?_ GE291.out | refine below_set ?_ GE292.out | refine below_set ?_ GE293.out) | exact HB.out)) hb); have n4_ := Aside0.mk (hbox); have n5_ := Aside0.mk ((by rw [hg]; exact (below_size (by repeat (first | (with_reducible first | exact HB.out | apply below_alloc | apply pw_below_drewN | apply below_drew1 | refine below_set ?_ GE291.out | refine below_set ?_ GE292.out | refine below_set ?_ GE293.out) | exact HB.out))) : w.heap.size ≤ gb294)); have n6_ := Aside0.mk ((by rw [hg]; exact (below_size (by repeat (first | (with_reducible first | exact HB.out | apply below_alloc | apply pw_below_drewN | apply below_drew1 | refine below_set ?_ GE291.out | refine below_set ?_ GE292.out | refine below_set ?_ GE293.out) | exact HB.out))) : w.heap.size ≤ gb294)); have n7_ := Aside0.mk ((by rw [hg]; exact Nat.ne_of_lt (blk_lt (g := gb291) (o := .cells #[.int .i64 a1_0, .int .i64 a1_1] 23 (0, 0)) (by (with_reducible repeat (first | refine blk_drewN ?_ _ | refine blk_drew ?_ | refine blk_alloc ?_ _)); exact BK291.out)) : gb291 ≠ gb294)); have n8_ := Aside0.mk ((by rw [hg]; exact Nat.ne_of_gt (blk_lt (g := gb291) (o := .cells #[.int .i64 a1_0, .int .i64 a1_1] 23 (0, 0)) (by (with_reducible repeat (first | refine blk_drewN ?_ _ | refine blk_drew ?_ | refine blk_alloc ?_ _)); exact BK291.out)) : gb294 ≠ gb291)); have n9_ := Aside0.mk ((by rw [hg]; exact Nat.ne_of_lt (blk_lt (g := gb292) (o := .cells #[.int .u64 a2_0, .int .u64 a2_1] 30 (0, 0)) (by (with_reducible repeat (first | refine blk_drewN ?_ _ | refine blk_drew ?_ | refine blk_alloc ?_ _)); exact BK292.out)) : gb292 ≠ gb294)); have n10_ := Aside0.mk ((by rw [hg]; exact Nat.ne_of_gt (blk_lt (g := gb292) (o := .cells #[.int .u64 a2_0, .int .u64 a2_1] 30 (0, 0)) (by (with_reducible repeat (first | refine blk_drewN ?_ _ | refine blk_drew ?_ | refine blk_alloc ?_ _)); exact BK292.out)) : gb294 ≠ gb292)); have n11_ := Aside0.mk ((by rw [hg]; exact Nat.ne_of_lt (blk_lt (g := gb293) (o := .cells #[.int .u64 0, .int .u64 0] 30 (0, 0)) (by (with_reducible repeat (first | refine blk_drewN ?_ _ | refine blk_drew ?_ | refine blk_alloc ?_ _)); exact BK293.out)) : gb293 ≠ gb294)); have n12_ := Aside0.mk ((by rw [hg]; exact Nat.ne_of_gt (blk_lt (g := gb293) (o := .cells #[.int .u64 0, .int .u64 0] 30 (0, 0)) (by (with_reducible repeat (first | refine blk_drewN ?_ _ | refine blk_drew ?_ | refine blk_alloc ?_ _)); exact BK293.out)) : gb294 ≠ gb293)); clear BK291; clear BK292; clear BK293; clear HB; have BK291 := n0_; have BK292 := n1_; have BK293 := n2_; have HB := n3_; have BK294 := n4_; have GW294 := n5_; have GE294 := n6_; have NB291_294 := n7_; have NB294_291 := n8_; have NB292_294 := n9_; have NB294_292 := n10_; have NB293_294 := n11_; have NB294_293 := n12_; clear n0_ n1_ n2_ n3_ n4_ n5_ n6_ n7_ n8_ n9_ n10_ n11_ n12_; clear hb hbox hg; have hnb9 := NB291_292.out; have hnc9 := NB292_291.out; have hnb10 := NB291_293.out; have hnc10 := NB293_291.out; have hnb11 := NB291_294.out; have hnc11 := NB294_291.out; have hcz12_0 : w8.cell? ⟨gb291, 0, none⟩ = some (.int .i64 a1_0) := (blk_cell BK291.out 0).trans rfl; have hcz12_1 : w8.cell? ⟨gb291, 1, none⟩ = some (.int .i64 a1_1) := (blk_cell BK291.out 1).trans rfl; have hfz12_0 := blk_frozen BK291.out 0; have hfz12_1 := blk_frozen BK291.out 1; have hnb13 := NB294_292.out; have hnc13 := NB292_294.out; have hnb14 := NB294_293.out; have hnc14 := NB293_294.out; have hcz15_0 : w8.cell? ⟨gb294, 0, none⟩ = some (.int .u64 0) := (blk_cell BK294.out 0).trans rfl; have hcz15_1 : w8.cell? ⟨gb294, 1, none⟩ = some (.int .u64 0) := (blk_cell BK294.out 1).trans rfl; have hfz15_0 := blk_frozen BK294.out 0; have hfz15_1 := blk_frozen BK294.out 1; have hnb16 := NB293_292.out; have hnc16 := NB292_293.out; have hcz17_0 : w8.cell? ⟨gb293, 0, none⟩ = some (.int .u64 0) := (blk_cell BK293.out 0).trans rfl; have hcz17_1 : w8.cell? ⟨gb293, 1, none⟩ = some (.int .u64 0) := (blk_cell BK293.out 1).trans rfl; have hfz17_0 := blk_frozen BK293.out 0; have hfz17_1 := blk_frozen BK293.out 1))
    refine bodyPost_ret (results_cell_row rfl _ _ gb293 30 #[.int .u64 0, .int .u64 0] (0, 0) _ rfl (by (with_reducible repeat (first | refine blk_drewN ?_ _ | refine blk_drew ?_ | refine blk_alloc ?_ _)); refine blk_put (cs := #[.int .u64 0, .int .u64 0]) ?_ 1 _ rfl; (with_reducible repeat (first | refine blk_drewN ?_ _ | refine blk_drew ?_ | refine blk_alloc ?_ _)); refine blk_put (cs := #[.int .u64 0, .int .u64 0]) ?_ 0 _ rfl; (with_reducible repeat (first | refine blk_drewN ?_ _ | refine blk_drew ?_ | refine blk_alloc ?_ _)); exact BK293.out) Try.underlying30 rfl (by kernel_rfl)) rfl ?_
    exact ⟨by first | rfl | (simp [errW_none, errW_some] <;> rfl) | (simp [*, errW_none, errW_some] <;> rfl) | (simp [*, errW_none, errW_some]; generalize ByteArray.toList _ = q_; cases q_ <;> rfl), by repeat (first | (with_reducible first | exact HB.out | apply below_alloc | apply pw_below_drewN | apply below_drew1 | refine below_set ?_ GE291.out | refine below_set ?_ GE292.out | refine below_set ?_ GE293.out | refine below_set ?_ GE294.out) | exact HB.out)⟩
  · rw [if_neg c4] at H
    have c4b0 : (a1_0 == 0 && (a1_1 == 0)) = false := by simpa using c4
    (try (have c4b1 : decide (a1_0 = 0 && (a1_1 == 0)) = false := by simpa using c4))
    (try (have c4b2 : (a1_0 == 0 && (a1_1 == 0)) = false := by simpa using c4))
    (try (have c4b3 : ¬ (a1_0 = 0 && (a1_1 == 0)) := by simpa using c4))
    clear c4
    replace H := Option.bind_eq_some_iff.mp H
    obtain ⟨t295, A180, H⟩ := H
    replace H : (ray_Way.l0 k t295 a1_0 a1_1 a2_0 a2_1 0 0) = some (r1, r2) := H
    have A18 := Aside0.mk A180
    clear A180
    have H' := Aside0.mk H
    clear H
    go_enter Try.func42, Try.ntmps42
    go_wp2_with (first | ((with_reducible refine gate_dst (N := 4) rfl ?_); refine box_event ?hg (N := 4) ?hd (cs := #[.int .i64 a1_0, .int .i64 a1_1]) (t := 23) ?hr ?_; (case hd => rfl); (case hg => rfl); (case hr => first | (go_simp; done) | (go_simp; rfl)); intro gb291 hg w19 hbox hb; have n0_ := Aside0.mk (below_step (by repeat (first | (with_reducible first | exact HB.out | apply below_alloc | apply pw_below_drewN | apply below_drew1) | exact HB.out)) hb); have n1_ := Aside0.mk (hbox); have n2_ := Aside0.mk ((by rw [hg]; exact (below_size (by repeat (first | (with_reducible first | exact HB.out | apply below_alloc | apply pw_below_drewN | apply below_drew1) | exact HB.out))) : w.heap.size ≤ gb291)); have n3_ := Aside0.mk ((by rw [hg]; exact (below_size (by repeat (first | (with_reducible first | exact HB.out | apply below_alloc | apply pw_below_drewN | apply below_drew1) | exact HB.out))) : w.heap.size ≤ gb291)); clear HB; have HB := n0_; have BK291 := n1_; have GW291 := n2_; have GE291 := n3_; clear n0_ n1_ n2_ n3_; clear hb hbox hg) | ((with_reducible refine gate_dst (N := 5) rfl ?_); refine box_event ?hg (N := 5) ?hd (cs := #[.int .u64 a2_0, .int .u64 a2_1]) (t := 30) ?hr ?_; (case hd => rfl); (case hg => rfl); (case hr => first | (go_simp; done) | (go_simp; rfl)); intro gb292 hg w20 hbox hb; have n0_ := Aside0.mk (blk_below (g := gb291) (o := .cells #[.int .i64 a1_0, .int .i64 a1_1] 23 (0, 0)) (by (with_reducible repeat (first | refine blk_drewN ?_ _ | refine blk_drew ?_ | refine blk_alloc ?_ _)); exact BK291.out) hb); have n1_ := Aside0.mk (below_step (by repeat (first | (with_reducible first | exact HB.out | apply below_alloc | apply pw_below_drewN | apply below_drew1 | refine below_set ?_ GE291.out) | exact HB.out)) hb); have n2_ := Aside0.mk (hbox); have n3_ := Aside0.mk ((by rw [hg]; exact (below_size (by repeat (first | (with_reducible first | exact HB.out | apply below_alloc | apply pw_below_drewN | apply below_drew1 | refine below_set ?_ GE291.out) | exact HB.out))) : w.heap.size ≤ gb292)); have n4_ := Aside0.mk ((by rw [hg]; exact (below_size (by repeat (first | (with_reducible first | exact HB.out | apply below_alloc | apply pw_below_drewN | apply below_drew1 | refine below_set ?_ GE291.out) | exact HB.out))) : w.heap.size ≤ gb292)); have n5_ := Aside0.mk ((by rw [hg]; exact Nat.ne_of_lt (blk_lt (g := gb291) (o := .cells #[.int .i64 a1_0, .int .i64 a1_1] 23 (0, 0)) (by (with_reducible repeat (first | refine blk_drewN ?_ _ | refine blk_drew ?_ | refine blk_alloc ?_ _)); exact BK291.out)) : gb291 ≠ gb292)); have n6_ := Aside0.mk ((by rw [hg]; exact Nat.ne_of_gt (blk_lt (g := gb291) (o := .cells #[.int .i64 a1_0, .int .i64 a1_1] 23 (0, 0)) (by (with_reducible repeat (first | refine blk_drewN ?_ _ | refine blk_drew ?_ | refine blk_alloc ?_ _)); exact BK291.out)) : gb292 ≠ gb291)); clear BK291; clear HB; have BK291 := n0_; have HB := n1_; have BK292 := n2_; have GW292 := n3_; have GE292 := n4_; have NB291_292 := n5_; have NB292_291 := n6_; clear n0_ n1_ n2_ n3_ n4_ n5_ n6_; clear hb hbox hg) | ((with_reducible refine gate_dst (N := 6) rfl ?_); refine box_event ?hg (N := 6) ?hd (cs := #[.int .u64 0, .int .u64 0]) (t := 30) ?hr ?_; (case hd => rfl); (case hg => rfl); (case hr => first | (go_simp; done) | (go_simp; rfl)); intro gb293 hg w21 hbox hb; have n0_ := Aside0.mk (blk_below (g := gb291) (o := .cells #[.int .i64 a1_0, .int .i64 a1_1] 23 (0, 0)) (by (with_reducible repeat (first | refine blk_drewN ?_ _ | refine blk_drew ?_ | refine blk_alloc ?_ _)); exact BK291.out) hb); have n1_ := Aside0.mk (blk_below (g := gb292) (o := .cells #[.int .u64 a2_0, .int .u64 a2_1] 30 (0, 0)) (by (with_reducible repeat (first | refine blk_drewN ?_ _ | refine blk_drew ?_ | refine blk_alloc ?_ _)); exact BK292.out) hb); have n2_ := Aside0.mk (below_step (by repeat (first | (with_reducible first | exact HB.out | apply below_alloc | apply pw_below_drewN | apply below_drew1 | refine below_set ?_ GE291.out | refine below_set ?_ GE292.out) | exact HB.out)) hb); have n3_ := Aside0.mk (hbox); have n4_ := Aside0.mk ((by rw [hg]; exact (below_size (by repeat (first | (with_reducible first | exact HB.out | apply below_alloc | apply pw_below_drewN | apply below_drew1 | refine below_set ?_ GE291.out | refine below_set ?_ GE292.out) | exact HB.out))) : w.heap.size ≤ gb293)); have n5_ := Aside0.mk ((by rw [hg]; exact (below_size (by repeat (first | (with_reducible first | exact HB.out | apply below_alloc | apply pw_below_drewN | apply below_drew1 | refine below_set ?_ GE291.out | refine below_set ?_ GE292.out) | exact HB.out))) : w.heap.size ≤ gb293)); have n6_ := Aside0.mk ((by rw [hg]; exact Nat.ne_of_lt (blk_lt (g := gb291) (o := .cells #[.int .i64 a1_0, .int .i64 a1_1] 23 (0, 0)) (by (with_reducible repeat (first | refine blk_drewN ?_ _ | refine blk_drew ?_ | refine blk_alloc ?_ _)); exact BK291.out)) : gb291 ≠ gb293)); have n7_ := Aside0.mk ((by rw [hg]; exact Nat.ne_of_gt (blk_lt (g := gb291) (o := .cells #[.int .i64 a1_0, .int .i64 a1_1] 23 (0, 0)) (by (with_reducible repeat (first | refine blk_drewN ?_ _ | refine blk_drew ?_ | refine blk_alloc ?_ _)); exact BK291.out)) : gb293 ≠ gb291)); have n8_ := Aside0.mk ((by rw [hg]; exact Nat.ne_of_lt (blk_lt (g := gb292) (o := .cells #[.int .u64 a2_0, .int .u64 a2_1] 30 (0, 0)) (by (with_reducible repeat (first | refine blk_drewN ?_ _ | refine blk_drew ?_ | refine blk_alloc ?_ _)); exact BK292.out)) : gb292 ≠ gb293)); have n9_ := Aside0.mk ((by rw [hg]; exact Nat.ne_of_gt (blk_lt (g := gb292) (o := .cells #[.int .u64 a2_0, .int .u64 a2_1] 30 (0, 0)) (by (with_reducible repeat (first | refine blk_drewN ?_ _ | refine blk_drew ?_ | refine blk_alloc ?_ _)); exact BK292.out)) : gb293 ≠ gb292)); clear BK291; clear BK292; clear HB; have BK291 := n0_; have BK292 := n1_; have HB := n2_; have BK293 := n3_; have GW293 := n4_; have GE293 := n5_; have NB291_293 := n6_; have NB293_291 := n7_; have NB292_293 := n8_; have NB293_292 := n9_; clear n0_ n1_ n2_ n3_ n4_ n5_ n6_ n7_ n8_ n9_; clear hb hbox hg) | ((with_reducible refine gate_dst (N := 7) rfl ?_); refine box_event ?hg (N := 7) ?hd (cs := #[.int .u64 0, .int .u64 0]) (t := 30) ?hr ?_; (case hd => rfl); (case hg => rfl); (case hr => first | (go_simp; done) | (go_simp; rfl)); intro gb294 hg w22 hbox hb; have n0_ := Aside0.mk (blk_below (g := gb291) (o := .cells #[.int .i64 a1_0, .int .i64 a1_1] 23 (0, 0)) (by (with_reducible repeat (first | refine blk_drewN ?_ _ | refine blk_drew ?_ | refine blk_alloc ?_ _)); exact BK291.out) hb); have n1_ := Aside0.mk (blk_below (g := gb292) (o := .cells #[.int .u64 a2_0, .int .u64 a2_1] 30 (0, 0)) (by (with_reducible repeat (first | refine blk_drewN ?_ _ | refine blk_drew ?_ | refine blk_alloc ?_ _)); exact BK292.out) hb); have n2_ := Aside0.mk (blk_below (g := gb293) (o := .cells #[.int .u64 0, .int .u64 0] 30 (0, 0)) (by (with_reducible repeat (first | refine blk_drewN ?_ _ | refine blk_drew ?_ | refine blk_alloc ?_ _)); exact BK293.out) hb); have n3_ := Aside0.mk (below_step (by repeat (first | (with_reducible first | exact HB.out | apply below_alloc | apply pw_below_drewN | apply below_drew1 | refine below_set ?_ GE291.out | refine below_set ?_ GE292.out | refine below_set ?_ GE293.out) | exact HB.out)) hb); have n4_ := Aside0.mk (hbox); have n5_ := Aside0.mk ((by rw [hg]; exact (below_size (by repeat (first | (with_reducible first | exact HB.out | apply below_alloc | apply pw_below_drewN | apply below_drew1 | refine below_set ?_ GE291.out | refine below_set ?_ GE292.out | refine below_set ?_ GE293.out) | exact HB.out))) : w.heap.size ≤ gb294)); have n6_ := Aside0.mk ((by rw [hg]; exact (below_size (by repeat (first | (with_reducible first | exact HB.out | apply below_alloc | apply pw_below_drewN | apply below_drew1 | refine below_set ?_ GE291.out | refine below_set ?_ GE292.out | refine below_set ?_ GE293.out) | exact HB.out))) : w.heap.size ≤ gb294)); have n7_ := Aside0.mk ((by rw [hg]; exact Nat.ne_of_lt (blk_lt (g := gb291) (o := .cells #[.int .i64 a1_0, .int .i64 a1_1] 23 (0, 0)) (by (with_reducible repeat (first | refine blk_drewN ?_ _ | refine blk_drew ?_ | refine blk_alloc ?_ _)); exact BK291.out)) : gb291 ≠ gb294)); have n8_ := Aside0.mk ((by rw [hg]; exact Nat.ne_of_gt (blk_lt (g := gb291) (o := .cells #[.int .i64 a1_0, .int .i64 a1_1] 23 (0, 0)) (by (with_reducible repeat (first | refine blk_drewN ?_ _ | refine blk_drew ?_ | refine blk_alloc ?_ _)); exact BK291.out)) : gb294 ≠ gb291)); have n9_ := Aside0.mk ((by rw [hg]; exact Nat.ne_of_lt (blk_lt (g := gb292) (o := .cells #[.int .u64 a2_0, .int .u64 a2_1] 30 (0, 0)) (by (with_reducible repeat (first | refine blk_drewN ?_ _ | refine blk_drew ?_ | refine blk_alloc ?_ _)); exact BK292.out)) : gb292 ≠ gb294)); have n10_ := Aside0.mk ((by rw [hg]; exact Nat.ne_of_gt (blk_lt (g := gb292) (o := .cells #[.int .u64 a2_0, .int .u64 a2_1] 30 (0, 0)) (by (with_reducible repeat (first | refine blk_drewN ?_ _ | refine blk_drew ?_ | refine blk_alloc ?_ _)); exact BK292.out)) : gb294 ≠ gb292)); have n11_ := Aside0.mk ((by rw [hg]; exact Nat.ne_of_lt (blk_lt (g := gb293) (o := .cells #[.int .u64 0, .int .u64 0] 30 (0, 0)) (by (with_reducible repeat (first | refine blk_drewN ?_ _ | refine blk_drew ?_ | refine blk_alloc ?_ _)); exact BK293.out)) : gb293 ≠ gb294)); have n12_ := Aside0.mk ((by rw [hg]; exact Nat.ne_of_gt (blk_lt (g := gb293) (o := .cells #[.int .u64 0, .int .u64 0] 30 (0, 0)) (by (with_reducible repeat (first | refine blk_drewN ?_ _ | refine blk_drew ?_ | refine blk_alloc ?_ _)); exact BK293.out)) : gb294 ≠ gb293)); clear BK291; clear BK292; clear BK293; clear HB; have BK291 := n0_; have BK292 := n1_; have BK293 := n2_; have HB := n3_; have BK294 := n4_; have GW294 := n5_; have GE294 := n6_; have NB291_294 := n7_; have NB294_291 := n8_; have NB292_294 := n9_; have NB294_292 := n10_; have NB293_294 := n11_; have NB294_293 := n12_; clear n0_ n1_ n2_ n3_ n4_ n5_ n6_ n7_ n8_ n9_ n10_ n11_ n12_; clear hb hbox hg; have hnb23 := NB291_292.out; have hnc23 := NB292_291.out; have hnb24 := NB291_293.out; have hnc24 := NB293_291.out; have hnb25 := NB291_294.out; have hnc25 := NB294_291.out; have hcz26_0 : w22.cell? ⟨gb291, 0, none⟩ = some (.int .i64 a1_0) := (blk_cell BK291.out 0).trans rfl; have hcz26_1 : w22.cell? ⟨gb291, 1, none⟩ = some (.int .i64 a1_1) := (blk_cell BK291.out 1).trans rfl; have hfz26_0 := blk_frozen BK291.out 0; have hfz26_1 := blk_frozen BK291.out 1) | ((with_reducible refine gate_callee (f := 10) rfl ?_); refine goesL_ (some 14) rfl rfl Try.func10 (by kernel_rfl) rfl #[.agg #[.int .i64 a1_0, .int .i64 a1_1], .int .i64 a0] rfl (by (try simp only [List.map_toArray, List.map_cons, List.map_nil]); first | done | rfl | (simp only [List.length_drop, List.length_take]; rfl)) ?_; (with_reducible refine (step_Dir_From.calls a1_0 a1_1 a0 t295 _ A18.out).mono ?_); rintro e w27 ⟨rfl, hb⟩; refine ⟨_, rfl, ?_⟩; have n0_ := Aside0.mk (blk_below (g := gb291) (o := .cells #[.int .i64 a1_0, .int .i64 a1_1] 23 (0, 0)) (by (with_reducible repeat (first | refine blk_drewN ?_ _ | refine blk_drew ?_ | refine blk_alloc ?_ _)); exact BK291.out) hb); have n1_ := Aside0.mk (blk_below (g := gb292) (o := .cells #[.int .u64 a2_0, .int .u64 a2_1] 30 (0, 0)) (by (with_reducible repeat (first | refine blk_drewN ?_ _ | refine blk_drew ?_ | refine blk_alloc ?_ _)); exact BK292.out) hb); have n2_ := Aside0.mk (blk_below (g := gb293) (o := .cells #[.int .u64 0, .int .u64 0] 30 (0, 0)) (by (with_reducible repeat (first | refine blk_drewN ?_ _ | refine blk_drew ?_ | refine blk_alloc ?_ _)); exact BK293.out) hb); have n3_ := Aside0.mk (blk_below (g := gb294) (o := .cells #[.int .u64 0, .int .u64 0] 30 (0, 0)) (by (with_reducible repeat (first | refine blk_drewN ?_ _ | refine blk_drew ?_ | refine blk_alloc ?_ _)); exact BK294.out) hb); have n4_ := Aside0.mk (below_step (by repeat (first | (with_reducible first | exact HB.out | apply below_alloc | apply pw_below_drewN | apply below_drew1 | refine below_set ?_ GE291.out | refine below_set ?_ GE292.out | refine below_set ?_ GE293.out | refine below_set ?_ GE294.out) | exact HB.out)) hb); clear BK291; clear BK292; clear BK293; clear BK294; clear HB; have BK291 := n0_; have BK292 := n1_; have BK293 := n2_; have BK294 := n3_; have HB := n4_; clear n0_ n1_ n2_ n3_ n4_; (try clear hb); (try clear hb2); (try clear hk); (try clear hi)))
    go_loopg [0] k (fun kq v0 w' => ∃ (x0_1 : Int) (x295000_1 : Int) (x295001_1 : Int), v0 = .int .i64 x0_1 ∧ Aside0 (ray_Way.l0 kq x0_1 a1_0 a1_1 a2_0 a2_1 x295000_1 x295001_1 = some (r1, r2)) ∧ Aside0 (kq ≤ k) ∧ Aside0 (w'.heap[gb291]? = some (.cells #[.int .i64 a1_0, .int .i64 a1_1] 23 (0, 0))) ∧ Aside0 (w'.heap[gb292]? = some (.cells #[.int .u64 a2_0, .int .u64 a2_1] 30 (0, 0))) ∧ Aside0 (w'.heap[gb293]? = some (.cells #[.int .u64 0, .int .u64 0] 30 (0, 0))) ∧ Aside0 (w'.heap[gb294]? = some (.cells #[.int .u64 x295000_1, .int .u64 x295001_1] 30 (0, 0))) ∧ Aside0 (Below w.heap.size w w'))
    case atStart => exact ⟨(t295), (0), (0), (by first | rfl | (simp; done) | (simp [*]; done)), H', ⟨Nat.le_refl _⟩, ⟨by (with_reducible repeat (first | refine blk_drewN ?_ _ | refine blk_drew ?_ | refine blk_alloc ?_ _)); exact BK291.out⟩, ⟨by (with_reducible repeat (first | refine blk_drewN ?_ _ | refine blk_drew ?_ | refine blk_alloc ?_ _)); exact BK292.out⟩, ⟨by (with_reducible repeat (first | refine blk_drewN ?_ _ | refine blk_drew ?_ | refine blk_alloc ?_ _)); exact BK293.out⟩, ⟨by (with_reducible repeat (first | refine blk_drewN ?_ _ | refine blk_drew ?_ | refine blk_alloc ?_ _)); exact BK294.out⟩, ⟨by repeat (first | (with_reducible first | exact HB.out | apply below_alloc | apply pw_below_drewN | apply below_drew1 | refine below_set ?_ GE291.out | refine below_set ?_ GE292.out | refine below_set ?_ GE293.out | refine below_set ?_ GE294.out) | exact HB.out)⟩⟩
    case round =>
      clear H'
      try clear c1
      try clear c2
      try clear p2
      try clear c4
      try clear c4b0
      try clear c4b1
      try clear c4b2
      try clear c9
      try clear c10
      try clear c11
      try clear c13
      try clear c14
      try clear c16
      try clear c23
      try clear c24
      try clear c25
      try clear hcz12_0
      try clear hcz12_1
      try clear hcz15_0
      try clear hcz15_1
      try clear hcz17_0
      try clear hcz17_1
      try clear hcz26_0
      try clear hcz26_1
      try clear hfz12_0
      try clear hfz12_1
      try clear hfz15_0
      try clear hfz15_1
      try clear hfz17_0
      try clear hfz17_1
      try clear hfz26_0
      try clear hfz26_1
      obtain ⟨x0_1, x295000_1, x295001_1, rfl, HA, HK1, BK291, BK292, BK293, BK294, HB⟩ := hrel
      cases gk with
      | zero => exact absurd HA.out (by simp [ray_Way.l0])
      | succ k1 =>
        have H := HA.out
        clear HA
        simp only [ray_Way.l0] at H
        by_cases c28 : x0_1 ≥ 0
        · rw [if_pos c28] at H
          have c28b0 : decide (0 ≤ x0_1) = true := decide_eq_true c28
          clear c28
          replace H := Option.bind_eq_some_iff.mp H
          obtain ⟨⟨t296, t297⟩, A290, H⟩ := H
          replace H : ((set_Set_Has.f k1 a2_0 a2_1 x0_1).bind fun t298 => (if t298 = true then (some (t296, t297)) else ((step_Dir_From.f a1_0 a1_1 x0_1).bind fun t299 => (ray_Way.l0 k1 t299 a1_0 a1_1 a2_0 a2_1 t296 t297)))) = some (r1, r2) := H
          have A29 := Aside0.mk A290
          clear A290
          replace H := Option.bind_eq_some_iff.mp H
          obtain ⟨t298, A300, H⟩ := H
          replace H : (if t298 = true then (some (t296, t297)) else ((step_Dir_From.f a1_0 a1_1 x0_1).bind fun t299 => (ray_Way.l0 k1 t299 a1_0 a1_1 a2_0 a2_1 t296 t297))) = some (r1, r2) := H
          have A30 := Aside0.mk A300
          clear A300
          by_cases c31 : t298 = true
          · subst c31
            have H1 : (some (t296, t297)) = some (r1, r2) := by rw [if_pos rfl] at H; exact H
            clear H
            have H := H1
            clear H1
            simp only [Option.some.injEq, Prod.mk.injEq] at H
            obtain ⟨rfl, rfl⟩ := H
            have hnb32 := NB294_291.out
            have hnc32 := NB291_294.out
            have hnb33 := NB294_292.out
            have hnc33 := NB292_294.out
            have hnb34 := NB294_293.out
            have hnc34 := NB293_294.out
            have hcz35_0 : wr.cell? ⟨gb294, 0, none⟩ = some (.int .u64 x295000_1) := (blk_cell BK294.out 0).trans rfl
            have hcz35_1 : wr.cell? ⟨gb294, 1, none⟩ = some (.int .u64 x295001_1) := (blk_cell BK294.out 1).trans rfl
            have hfz35_0 := blk_frozen BK294.out 0
            have hfz35_1 := blk_frozen BK294.out 1
            go_wp2_with (first | ((with_reducible refine gate_callee (f := 17) rfl ?_); refine goesL_ (some 22) rfl rfl Try.func17 (by kernel_rfl) rfl #[.agg #[.int .u64 x295000_1, .int .u64 x295001_1], .int .i64 x0_1] rfl (by (try simp only [List.map_toArray, List.map_cons, List.map_nil]); first | done | rfl | (simp only [List.length_drop, List.length_take]; rfl)) ?_; (with_reducible refine (set_Set_With.calls k1 x295000_1 x295001_1 x0_1 t296 t297 _ A29.out).mono ?_); rintro e w36 ⟨rfl, hb⟩; refine ⟨_, rfl, ?_⟩; have n0_ := Aside0.mk (blk_below (g := gb291) (o := .cells #[.int .i64 a1_0, .int .i64 a1_1] 23 (0, 0)) (by (with_reducible repeat (first | refine blk_drewN ?_ _ | refine blk_drew ?_ | refine blk_alloc ?_ _)); exact BK291.out) hb); have n1_ := Aside0.mk (blk_below (g := gb292) (o := .cells #[.int .u64 a2_0, .int .u64 a2_1] 30 (0, 0)) (by (with_reducible repeat (first | refine blk_drewN ?_ _ | refine blk_drew ?_ | refine blk_alloc ?_ _)); exact BK292.out) hb); have n2_ := Aside0.mk (blk_below (g := gb293) (o := .cells #[.int .u64 0, .int .u64 0] 30 (0, 0)) (by (with_reducible repeat (first | refine blk_drewN ?_ _ | refine blk_drew ?_ | refine blk_alloc ?_ _)); exact BK293.out) hb); have n3_ := Aside0.mk (blk_below (g := gb294) (o := .cells #[.int .u64 x295000_1, .int .u64 x295001_1] 30 (0, 0)) (by (with_reducible repeat (first | refine blk_drewN ?_ _ | refine blk_drew ?_ | refine blk_alloc ?_ _)); exact BK294.out) hb); have n4_ := Aside0.mk (below_step (by repeat (first | (with_reducible first | exact HB.out | apply below_alloc | apply pw_below_drewN | apply below_drew1 | refine below_set ?_ GE291.out | refine below_set ?_ GE292.out | refine below_set ?_ GE293.out | refine below_set ?_ GE294.out) | exact HB.out)) hb); clear BK291; clear BK292; clear BK293; clear BK294; clear HB; have BK291 := n0_; have BK292 := n1_; have BK293 := n2_; have BK294 := n3_; have HB := n4_; clear n0_ n1_ n2_ n3_ n4_; (try clear hb); (try clear hb2); (try clear hk); (try clear hi); have hcz37_0 : w36.cell? ⟨gb294, 0, none⟩ = some (.int .u64 x295000_1) := (blk_cell BK294.out 0).trans rfl; have hcz37_1 : w36.cell? ⟨gb294, 1, none⟩ = some (.int .u64 x295001_1) := (blk_cell BK294.out 1).trans rfl; have hfz37_0 := blk_frozen BK294.out 0; have hfz37_1 := blk_frozen BK294.out 1; have hnb38 := NB292_291.out; have hnc38 := NB291_292.out; have hnb39 := NB292_293.out; have hnc39 := NB293_292.out; have hcz40_0 : w36.cell? ⟨gb292, 0, none⟩ = some (.int .u64 a2_0) := (blk_cell BK292.out 0).trans rfl; have hcz40_1 : w36.cell? ⟨gb292, 1, none⟩ = some (.int .u64 a2_1) := (blk_cell BK292.out 1).trans rfl; have hfz40_0 := blk_frozen BK292.out 0; have hfz40_1 := blk_frozen BK292.out 1) | ((with_reducible refine gate_callee (f := 15) rfl ?_); refine goesL_ (some 25) rfl rfl Try.func15 (by kernel_rfl) rfl #[.agg #[.int .u64 a2_0, .int .u64 a2_1], .int .i64 x0_1] rfl (by (try simp only [List.map_toArray, List.map_cons, List.map_nil]); first | done | rfl | (simp only [List.length_drop, List.length_take]; rfl)) ?_; (with_reducible refine (set_Set_Has.calls k1 a2_0 a2_1 x0_1 true _ A30.out).mono ?_); rintro e w41 ⟨rfl, hb⟩; refine ⟨_, rfl, ?_⟩; have n0_ := Aside0.mk (blk_below (g := gb291) (o := .cells #[.int .i64 a1_0, .int .i64 a1_1] 23 (0, 0)) (by (with_reducible repeat (first | refine blk_drewN ?_ _ | refine blk_drew ?_ | refine blk_alloc ?_ _)); refine blk_far ?_ NB291_294.out _; (with_reducible repeat (first | refine blk_drewN ?_ _ | refine blk_drew ?_ | refine blk_alloc ?_ _)); refine blk_far ?_ NB291_294.out _; (with_reducible repeat (first | refine blk_drewN ?_ _ | refine blk_drew ?_ | refine blk_alloc ?_ _)); exact BK291.out) hb); have n1_ := Aside0.mk (blk_below (g := gb292) (o := .cells #[.int .u64 a2_0, .int .u64 a2_1] 30 (0, 0)) (by (with_reducible repeat (first | refine blk_drewN ?_ _ | refine blk_drew ?_ | refine blk_alloc ?_ _)); refine blk_far ?_ NB292_294.out _; (with_reducible repeat (first | refine blk_drewN ?_ _ | refine blk_drew ?_ | refine blk_alloc ?_ _)); refine blk_far ?_ NB292_294.out _; (with_reducible repeat (first | refine blk_drewN ?_ _ | refine blk_drew ?_ | refine blk_alloc ?_ _)); exact BK292.out) hb); have n2_ := Aside0.mk (blk_below (g := gb293) (o := .cells #[.int .u64 0, .int .u64 0] 30 (0, 0)) (by (with_reducible repeat (first | refine blk_drewN ?_ _ | refine blk_drew ?_ | refine blk_alloc ?_ _)); refine blk_far ?_ NB293_294.out _; (with_reducible repeat (first | refine blk_drewN ?_ _ | refine blk_drew ?_ | refine blk_alloc ?_ _)); refine blk_far ?_ NB293_294.out _; (with_reducible repeat (first | refine blk_drewN ?_ _ | refine blk_drew ?_ | refine blk_alloc ?_ _)); exact BK293.out) hb); have n3_ := Aside0.mk (blk_below (g := gb294) (o := .cells #[.int .u64 t296, .int .u64 t297] 30 (0, 0)) (by (with_reducible repeat (first | refine blk_drewN ?_ _ | refine blk_drew ?_ | refine blk_alloc ?_ _)); refine blk_put (cs := #[.int .u64 t296, .int .u64 x295001_1]) ?_ 1 _ rfl; (with_reducible repeat (first | refine blk_drewN ?_ _ | refine blk_drew ?_ | refine blk_alloc ?_ _)); refine blk_put (cs := #[.int .u64 x295000_1, .int .u64 x295001_1]) ?_ 0 _ rfl; (with_reducible repeat (first | refine blk_drewN ?_ _ | refine blk_drew ?_ | refine blk_alloc ?_ _)); exact BK294.out) hb); have n4_ := Aside0.mk (below_step (by repeat (first | (with_reducible first | exact HB.out | apply below_alloc | apply pw_below_drewN | apply below_drew1 | refine below_set ?_ GE291.out | refine below_set ?_ GE292.out | refine below_set ?_ GE293.out | refine below_set ?_ GE294.out) | exact HB.out)) hb); clear BK291; clear BK292; clear BK293; clear BK294; clear HB; have BK291 := n0_; have BK292 := n1_; have BK293 := n2_; have BK294 := n3_; have HB := n4_; clear n0_ n1_ n2_ n3_ n4_; (try clear hb); (try clear hb2); (try clear hk); (try clear hi); have hcz42_0 : w41.cell? ⟨gb294, 0, none⟩ = some (.int .u64 t296) := (blk_cell BK294.out 0).trans rfl; have hcz42_1 : w41.cell? ⟨gb294, 1, none⟩ = some (.int .u64 t297) := (blk_cell BK294.out 1).trans rfl; have hfz42_0 := blk_frozen BK294.out 0; have hfz42_1 := blk_frozen BK294.out 1; have hnb43 := NB293_291.out; have hnc43 := NB291_293.out; have hcz44_0 : w41.cell? ⟨gb293, 0, none⟩ = some (.int .u64 0) := (blk_cell BK293.out 0).trans rfl; have hcz44_1 : w41.cell? ⟨gb293, 1, none⟩ = some (.int .u64 0) := (blk_cell BK293.out 1).trans rfl; have hfz44_0 := blk_frozen BK293.out 0; have hfz44_1 := blk_frozen BK293.out 1))
            refine bodyPost_ret (results_cell_row rfl _ _ gb293 30 #[.int .u64 t296, .int .u64 t297] (0, 0) _ rfl (by (with_reducible repeat (first | refine blk_drewN ?_ _ | refine blk_drew ?_ | refine blk_alloc ?_ _)); refine blk_put (cs := #[.int .u64 t296, .int .u64 0]) ?_ 1 _ rfl; (with_reducible repeat (first | refine blk_drewN ?_ _ | refine blk_drew ?_ | refine blk_alloc ?_ _)); refine blk_put (cs := #[.int .u64 0, .int .u64 0]) ?_ 0 _ rfl; (with_reducible repeat (first | refine blk_drewN ?_ _ | refine blk_drew ?_ | refine blk_alloc ?_ _)); exact BK293.out) Try.underlying30 rfl (by kernel_rfl)) rfl ?_
            exact ⟨by first | rfl | (simp [errW_none, errW_some] <;> rfl) | (simp [*, errW_none, errW_some] <;> rfl) | (simp [*, errW_none, errW_some]; generalize ByteArray.toList _ = q_; cases q_ <;> rfl), by repeat (first | (with_reducible first | exact HB.out | apply below_alloc | apply pw_below_drewN | apply below_drew1 | refine below_set ?_ GE291.out | refine below_set ?_ GE292.out | refine below_set ?_ GE293.out | refine below_set ?_ GE294.out) | exact HB.out)⟩
          · replace c31 := Bool.eq_false_iff.mpr c31
            subst c31
            have H1 : ((step_Dir_From.f a1_0 a1_1 x0_1).bind fun t299 => (ray_Way.l0 k1 t299 a1_0 a1_1 a2_0 a2_1 t296 t297)) = some (r1, r2) := by rw [if_neg (show ¬ (false = true) by decide)] at H; exact H
            clear H
            have H := H1
            clear H1
            replace H := Option.bind_eq_some_iff.mp H
            obtain ⟨t299, A450, H⟩ := H
            replace H : (ray_Way.l0 k1 t299 a1_0 a1_1 a2_0 a2_1 t296 t297) = some (r1, r2) := H
            have A45 := Aside0.mk A450
            clear A450
            have H' := Aside0.mk H
            clear H
            have hnb46 := NB294_291.out
            have hnc46 := NB291_294.out
            have hnb47 := NB294_292.out
            have hnc47 := NB292_294.out
            have hnb48 := NB294_293.out
            have hnc48 := NB293_294.out
            have hcz49_0 : wr.cell? ⟨gb294, 0, none⟩ = some (.int .u64 x295000_1) := (blk_cell BK294.out 0).trans rfl
            have hcz49_1 : wr.cell? ⟨gb294, 1, none⟩ = some (.int .u64 x295001_1) := (blk_cell BK294.out 1).trans rfl
            have hfz49_0 := blk_frozen BK294.out 0
            have hfz49_1 := blk_frozen BK294.out 1
            go_wp2_with (first | ((with_reducible refine gate_callee (f := 17) rfl ?_); refine goesL_ (some 22) rfl rfl Try.func17 (by kernel_rfl) rfl #[.agg #[.int .u64 x295000_1, .int .u64 x295001_1], .int .i64 x0_1] rfl (by (try simp only [List.map_toArray, List.map_cons, List.map_nil]); first | done | rfl | (simp only [List.length_drop, List.length_take]; rfl)) ?_; (with_reducible refine (set_Set_With.calls k1 x295000_1 x295001_1 x0_1 t296 t297 _ A29.out).mono ?_); rintro e w50 ⟨rfl, hb⟩; refine ⟨_, rfl, ?_⟩; have n0_ := Aside0.mk (blk_below (g := gb291) (o := .cells #[.int .i64 a1_0, .int .i64 a1_1] 23 (0, 0)) (by (with_reducible repeat (first | refine blk_drewN ?_ _ | refine blk_drew ?_ | refine blk_alloc ?_ _)); exact BK291.out) hb); have n1_ := Aside0.mk (blk_below (g := gb292) (o := .cells #[.int .u64 a2_0, .int .u64 a2_1] 30 (0, 0)) (by (with_reducible repeat (first | refine blk_drewN ?_ _ | refine blk_drew ?_ | refine blk_alloc ?_ _)); exact BK292.out) hb); have n2_ := Aside0.mk (blk_below (g := gb293) (o := .cells #[.int .u64 0, .int .u64 0] 30 (0, 0)) (by (with_reducible repeat (first | refine blk_drewN ?_ _ | refine blk_drew ?_ | refine blk_alloc ?_ _)); exact BK293.out) hb); have n3_ := Aside0.mk (blk_below (g := gb294) (o := .cells #[.int .u64 x295000_1, .int .u64 x295001_1] 30 (0, 0)) (by (with_reducible repeat (first | refine blk_drewN ?_ _ | refine blk_drew ?_ | refine blk_alloc ?_ _)); exact BK294.out) hb); have n4_ := Aside0.mk (below_step (by repeat (first | (with_reducible first | exact HB.out | apply below_alloc | apply pw_below_drewN | apply below_drew1 | refine below_set ?_ GE291.out | refine below_set ?_ GE292.out | refine below_set ?_ GE293.out | refine below_set ?_ GE294.out) | exact HB.out)) hb); clear BK291; clear BK292; clear BK293; clear BK294; clear HB; have BK291 := n0_; have BK292 := n1_; have BK293 := n2_; have BK294 := n3_; have HB := n4_; clear n0_ n1_ n2_ n3_ n4_; (try clear hb); (try clear hb2); (try clear hk); (try clear hi); have hcz51_0 : w50.cell? ⟨gb294, 0, none⟩ = some (.int .u64 x295000_1) := (blk_cell BK294.out 0).trans rfl; have hcz51_1 : w50.cell? ⟨gb294, 1, none⟩ = some (.int .u64 x295001_1) := (blk_cell BK294.out 1).trans rfl; have hfz51_0 := blk_frozen BK294.out 0; have hfz51_1 := blk_frozen BK294.out 1; have hnb52 := NB292_291.out; have hnc52 := NB291_292.out; have hnb53 := NB292_293.out; have hnc53 := NB293_292.out; have hcz54_0 : w50.cell? ⟨gb292, 0, none⟩ = some (.int .u64 a2_0) := (blk_cell BK292.out 0).trans rfl; have hcz54_1 : w50.cell? ⟨gb292, 1, none⟩ = some (.int .u64 a2_1) := (blk_cell BK292.out 1).trans rfl; have hfz54_0 := blk_frozen BK292.out 0; have hfz54_1 := blk_frozen BK292.out 1) | ((with_reducible refine gate_callee (f := 15) rfl ?_); refine goesL_ (some 25) rfl rfl Try.func15 (by kernel_rfl) rfl #[.agg #[.int .u64 a2_0, .int .u64 a2_1], .int .i64 x0_1] rfl (by (try simp only [List.map_toArray, List.map_cons, List.map_nil]); first | done | rfl | (simp only [List.length_drop, List.length_take]; rfl)) ?_; (with_reducible refine (set_Set_Has.calls k1 a2_0 a2_1 x0_1 false _ A30.out).mono ?_); rintro e w55 ⟨rfl, hb⟩; refine ⟨_, rfl, ?_⟩; have n0_ := Aside0.mk (blk_below (g := gb291) (o := .cells #[.int .i64 a1_0, .int .i64 a1_1] 23 (0, 0)) (by (with_reducible repeat (first | refine blk_drewN ?_ _ | refine blk_drew ?_ | refine blk_alloc ?_ _)); refine blk_far ?_ NB291_294.out _; (with_reducible repeat (first | refine blk_drewN ?_ _ | refine blk_drew ?_ | refine blk_alloc ?_ _)); refine blk_far ?_ NB291_294.out _; (with_reducible repeat (first | refine blk_drewN ?_ _ | refine blk_drew ?_ | refine blk_alloc ?_ _)); exact BK291.out) hb); have n1_ := Aside0.mk (blk_below (g := gb292) (o := .cells #[.int .u64 a2_0, .int .u64 a2_1] 30 (0, 0)) (by (with_reducible repeat (first | refine blk_drewN ?_ _ | refine blk_drew ?_ | refine blk_alloc ?_ _)); refine blk_far ?_ NB292_294.out _; (with_reducible repeat (first | refine blk_drewN ?_ _ | refine blk_drew ?_ | refine blk_alloc ?_ _)); refine blk_far ?_ NB292_294.out _; (with_reducible repeat (first | refine blk_drewN ?_ _ | refine blk_drew ?_ | refine blk_alloc ?_ _)); exact BK292.out) hb); have n2_ := Aside0.mk (blk_below (g := gb293) (o := .cells #[.int .u64 0, .int .u64 0] 30 (0, 0)) (by (with_reducible repeat (first | refine blk_drewN ?_ _ | refine blk_drew ?_ | refine blk_alloc ?_ _)); refine blk_far ?_ NB293_294.out _; (with_reducible repeat (first | refine blk_drewN ?_ _ | refine blk_drew ?_ | refine blk_alloc ?_ _)); refine blk_far ?_ NB293_294.out _; (with_reducible repeat (first | refine blk_drewN ?_ _ | refine blk_drew ?_ | refine blk_alloc ?_ _)); exact BK293.out) hb); have n3_ := Aside0.mk (blk_below (g := gb294) (o := .cells #[.int .u64 t296, .int .u64 t297] 30 (0, 0)) (by (with_reducible repeat (first | refine blk_drewN ?_ _ | refine blk_drew ?_ | refine blk_alloc ?_ _)); refine blk_put (cs := #[.int .u64 t296, .int .u64 x295001_1]) ?_ 1 _ rfl; (with_reducible repeat (first | refine blk_drewN ?_ _ | refine blk_drew ?_ | refine blk_alloc ?_ _)); refine blk_put (cs := #[.int .u64 x295000_1, .int .u64 x295001_1]) ?_ 0 _ rfl; (with_reducible repeat (first | refine blk_drewN ?_ _ | refine blk_drew ?_ | refine blk_alloc ?_ _)); exact BK294.out) hb); have n4_ := Aside0.mk (below_step (by repeat (first | (with_reducible first | exact HB.out | apply below_alloc | apply pw_below_drewN | apply below_drew1 | refine below_set ?_ GE291.out | refine below_set ?_ GE292.out | refine below_set ?_ GE293.out | refine below_set ?_ GE294.out) | exact HB.out)) hb); clear BK291; clear BK292; clear BK293; clear BK294; clear HB; have BK291 := n0_; have BK292 := n1_; have BK293 := n2_; have BK294 := n3_; have HB := n4_; clear n0_ n1_ n2_ n3_ n4_; (try clear hb); (try clear hb2); (try clear hk); (try clear hi); have hnb56 := NB291_293.out; have hnc56 := NB293_291.out; have hcz57_0 : w55.cell? ⟨gb291, 0, none⟩ = some (.int .i64 a1_0) := (blk_cell BK291.out 0).trans rfl; have hcz57_1 : w55.cell? ⟨gb291, 1, none⟩ = some (.int .i64 a1_1) := (blk_cell BK291.out 1).trans rfl; have hfz57_0 := blk_frozen BK291.out 0; have hfz57_1 := blk_frozen BK291.out 1) | ((with_reducible refine gate_callee (f := 10) rfl ?_); refine goesL_ (some 19) rfl rfl Try.func10 (by kernel_rfl) rfl #[.agg #[.int .i64 a1_0, .int .i64 a1_1], .int .i64 x0_1] rfl (by (try simp only [List.map_toArray, List.map_cons, List.map_nil]); first | done | rfl | (simp only [List.length_drop, List.length_take]; rfl)) ?_; (with_reducible refine (step_Dir_From.calls a1_0 a1_1 x0_1 t299 _ A45.out).mono ?_); rintro e w58 ⟨rfl, hb⟩; refine ⟨_, rfl, ?_⟩; have n0_ := Aside0.mk (blk_below (g := gb291) (o := .cells #[.int .i64 a1_0, .int .i64 a1_1] 23 (0, 0)) (by (with_reducible repeat (first | refine blk_drewN ?_ _ | refine blk_drew ?_ | refine blk_alloc ?_ _)); exact BK291.out) hb); have n1_ := Aside0.mk (blk_below (g := gb292) (o := .cells #[.int .u64 a2_0, .int .u64 a2_1] 30 (0, 0)) (by (with_reducible repeat (first | refine blk_drewN ?_ _ | refine blk_drew ?_ | refine blk_alloc ?_ _)); exact BK292.out) hb); have n2_ := Aside0.mk (blk_below (g := gb293) (o := .cells #[.int .u64 0, .int .u64 0] 30 (0, 0)) (by (with_reducible repeat (first | refine blk_drewN ?_ _ | refine blk_drew ?_ | refine blk_alloc ?_ _)); exact BK293.out) hb); have n3_ := Aside0.mk (blk_below (g := gb294) (o := .cells #[.int .u64 t296, .int .u64 t297] 30 (0, 0)) (by (with_reducible repeat (first | refine blk_drewN ?_ _ | refine blk_drew ?_ | refine blk_alloc ?_ _)); exact BK294.out) hb); have n4_ := Aside0.mk (below_step (by repeat (first | (with_reducible first | exact HB.out | apply below_alloc | apply pw_below_drewN | apply below_drew1 | refine below_set ?_ GE291.out | refine below_set ?_ GE292.out | refine below_set ?_ GE293.out | refine below_set ?_ GE294.out) | exact HB.out)) hb); clear BK291; clear BK292; clear BK293; clear BK294; clear HB; have BK291 := n0_; have BK292 := n1_; have BK293 := n2_; have BK294 := n3_; have HB := n4_; clear n0_ n1_ n2_ n3_ n4_; (try clear hb); (try clear hb2); (try clear hk); (try clear hi)))
            go_roundg k1
            case measure => have := HK1.out; omega
            case rel => exact ⟨(t299), (t296), (t297), (by first | rfl | (simp; done) | (simp [*]; done)), H', ⟨by have := HK1.out; omega⟩, ⟨by (with_reducible repeat (first | refine blk_drewN ?_ _ | refine blk_drew ?_ | refine blk_alloc ?_ _)); exact BK291.out⟩, ⟨by (with_reducible repeat (first | refine blk_drewN ?_ _ | refine blk_drew ?_ | refine blk_alloc ?_ _)); exact BK292.out⟩, ⟨by (with_reducible repeat (first | refine blk_drewN ?_ _ | refine blk_drew ?_ | refine blk_alloc ?_ _)); exact BK293.out⟩, ⟨by (with_reducible repeat (first | refine blk_drewN ?_ _ | refine blk_drew ?_ | refine blk_alloc ?_ _)); exact BK294.out⟩, ⟨by repeat (first | (with_reducible first | exact HB.out | apply below_alloc | apply pw_below_drewN | apply below_drew1 | refine below_set ?_ GE291.out | refine below_set ?_ GE292.out | refine below_set ?_ GE293.out | refine below_set ?_ GE294.out) | exact HB.out)⟩⟩
        · rw [if_neg c28] at H
          have c28b0 : decide (0 ≤ x0_1) = false := decide_eq_false c28
          clear c28
          simp only [Option.some.injEq, Prod.mk.injEq] at H
          obtain ⟨rfl, rfl⟩ := H
          have hnb59 := NB294_291.out
          have hnc59 := NB291_294.out
          have hnb60 := NB294_292.out
          have hnc60 := NB292_294.out
          have hnb61 := NB294_293.out
          have hnc61 := NB293_294.out
          have hcz62_0 : wr.cell? ⟨gb294, 0, none⟩ = some (.int .u64 x295000_1) := (blk_cell BK294.out 0).trans rfl
          have hcz62_1 : wr.cell? ⟨gb294, 1, none⟩ = some (.int .u64 x295001_1) := (blk_cell BK294.out 1).trans rfl
          have hfz62_0 := blk_frozen BK294.out 0
          have hfz62_1 := blk_frozen BK294.out 1
          have hnb63 := NB293_291.out
          have hnc63 := NB291_293.out
          have hnb64 := NB293_292.out
          have hnc64 := NB292_293.out
          have hcz65_0 : wr.cell? ⟨gb293, 0, none⟩ = some (.int .u64 0) := (blk_cell BK293.out 0).trans rfl
          have hcz65_1 : wr.cell? ⟨gb293, 1, none⟩ = some (.int .u64 0) := (blk_cell BK293.out 1).trans rfl
          have hfz65_0 := blk_frozen BK293.out 0
          have hfz65_1 := blk_frozen BK293.out 1
          go_wp2
          refine bodyPost_ret (results_cell_row rfl _ _ gb293 30 #[.int .u64 x295000_1, .int .u64 x295001_1] (0, 0) _ rfl (by (with_reducible repeat (first | refine blk_drewN ?_ _ | refine blk_drew ?_ | refine blk_alloc ?_ _)); refine blk_put (cs := #[.int .u64 x295000_1, .int .u64 0]) ?_ 1 _ rfl; (with_reducible repeat (first | refine blk_drewN ?_ _ | refine blk_drew ?_ | refine blk_alloc ?_ _)); refine blk_put (cs := #[.int .u64 0, .int .u64 0]) ?_ 0 _ rfl; (with_reducible repeat (first | refine blk_drewN ?_ _ | refine blk_drew ?_ | refine blk_alloc ?_ _)); exact BK293.out) Try.underlying30 rfl (by kernel_rfl)) rfl ?_
          exact ⟨by first | rfl | (simp [errW_none, errW_some] <;> rfl) | (simp [*, errW_none, errW_some] <;> rfl) | (simp [*, errW_none, errW_some]; generalize ByteArray.toList _ = q_; cases q_ <;> rfl), by repeat (first | (with_reducible first | exact HB.out | apply below_alloc | apply pw_below_drewN | apply below_drew1 | refine below_set ?_ GE291.out | refine below_set ?_ GE292.out | refine below_set ?_ GE293.out | refine below_set ?_ GE294.out) | exact HB.out)⟩

end Go.Proofs.Ytmoeodcmfjnihaa.Pa
