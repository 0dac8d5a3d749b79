-- Printed by a program of this session: the kit's printer, with contracts of this session's own among its functions.
import Derived.Test.YtmoeodcmfjnihaaDoorPax0
import Derived.Test.YtmoeodcmfjnihaaDoorPax1
import Derived.Test.YtmoeodcmfjnihaaDoorPax2
import Derived.Test.YtmoeodcmfjnihaaDoorPax3
import Derived.Test.YtmoeodcmfjnihaaDoorPax5
namespace Go.Proofs.YtmoeodcmfjnihaaDoor.Pa
open Go.RowKit Go.Proofs.YtmoeodcmfjnihaaDoorW.PrintWords Go.Proofs.YtmoeodcmfjnihaaDoorW.PrintLast Go.Proofs.YtmoeodcmfjnihaaDoorW.PrintMore
attribute [local go_sem] max2_int min2_int max_two min_two max_three min_three max_four min_four   -- for this text's walks alone
set_option linter.unusedVariables false
set_option linter.unusedSimpArgs false

attribute [local go_sem high] eqA26
/-! ### step_Dir_From: function 37 -/
def step_Dir_From.f (a0_0 : Int) (a0_1 : Int) (a1 : Int) : Option Int :=
  if a1 < 0 then some (-1) else if a1 ≥ 81 then some (-1) else if a0_0 < -8 then some (-1) else if a0_0 > 8 then some (-1) else if a0_1 < -8 then some (-1) else if a0_1 > 8 then some (-1)
  else set_Square.f (a1 / 9 + a0_0) (a1 % 9 + a0_1)
theorem step_Dir_From.calls (a0_0 : Int) (a0_1 : Int) (a1 : Int) (r : Int) (w : World) (h : step_Dir_From.f a0_0 a0_1 a1 = some r) :
    Calls Tryd.prog 37 #[.agg #[.int .i64 a0_0, .int .i64 a0_1], .int .i64 a1] w fun e w' => e = .returned (.int .i64 r) ∧ Below w.heap.size w w' := by
  have hu := Tryd.underlying52
  unfold step_Dir_From.f at h
  by_cases h1 : a1 < 0
  · rw [if_pos h1] at h
    obtain rfl := Option.some.inj h; clear h
    have b1 : decide (a1 < 0) = true := decide_eq_true h1
    go_enter Tryd.func37, Tryd.ntmps37
    go_wp2
    go_ret
    exact ⟨rfl, (Below.refl _ w).alloc (Nat.le_refl _) _⟩
  rw [if_neg h1] at h
  have b1 : decide (a1 < 0) = false := decide_eq_false h1
  by_cases h2 : a1 ≥ 81
  · rw [if_pos h2] at h
    obtain rfl := Option.some.inj h; clear h
    have b2 : decide (81 ≤ a1) = true := decide_eq_true h2
    go_enter Tryd.func37, Tryd.ntmps37
    go_wp2
    go_ret
    exact ⟨rfl, (Below.refl _ w).alloc (Nat.le_refl _) _⟩
  rw [if_neg h2] at h
  have b2 : decide (81 ≤ a1) = false := decide_eq_false h2
  by_cases h3 : a0_0 < -8
  · rw [if_pos h3] at h
    obtain rfl := Option.some.inj h; clear h
    have b3 : decide (a0_0 < -8) = true := decide_eq_true h3
    go_enter Tryd.func37, Tryd.ntmps37
    go_wp2
    go_ret
    exact ⟨rfl, (Below.refl _ w).alloc (Nat.le_refl _) _⟩
  rw [if_neg h3] at h
  have b3 : decide (a0_0 < -8) = false := decide_eq_false h3
  by_cases h4 : a0_0 > 8
  · rw [if_pos h4] at h
    obtain rfl := Option.some.inj h; clear h
    have b4 : decide (8 < a0_0) = true := decide_eq_true h4
    go_enter Tryd.func37, Tryd.ntmps37
    go_wp2
    go_ret
    exact ⟨rfl, (Below.refl _ w).alloc (Nat.le_refl _) _⟩
  rw [if_neg h4] at h
  have b4 : decide (8 < a0_0) = false := decide_eq_false h4
  by_cases h5 : a0_1 < -8
  · rw [if_pos h5] at h
    obtain rfl := Option.some.inj h; clear h
    have b5 : decide (a0_1 < -8) = true := decide_eq_true h5
    go_enter Tryd.func37, Tryd.ntmps37
    go_wp2
    go_ret
    exact ⟨rfl, (Below.refl _ w).alloc (Nat.le_refl _) _⟩
  rw [if_neg h5] at h
  have b5 : decide (a0_1 < -8) = false := decide_eq_false h5
  by_cases h6 : a0_1 > 8
  · rw [if_pos h6] at h
    obtain rfl := Option.some.inj h; clear h
    have b6 : decide (8 < a0_1) = true := decide_eq_true h6
    go_enter Tryd.func37, Tryd.ntmps37
    go_wp2
    go_ret
    exact ⟨rfl, (Below.refl _ w).alloc (Nat.le_refl _) _⟩
  rw [if_neg h6] at h
  have b6 : decide (8 < a0_1) = false := decide_eq_false h6
  obtain ⟨x, hx⟩ : ∃ x, a1 / 9 = x := ⟨_, rfl⟩
  obtain ⟨y, hy⟩ : ∃ y, a1 % 9 = y := ⟨_, rfl⟩
  have hx0 : 0 ≤ x := by omega
  have hx9 : x < 9 := by omega
  have hy0 : 0 ≤ y := by omega
  have hy9 : y < 9 := by omega
  have c1 : set_File.f a1 = some x := by
    unfold set_File.f
    rw [Int.tdiv_eq_ediv_of_nonneg (by omega), hx, show wrap64 x = x by unfold wrap64; omega]
  have c2 : set_Rank.f a1 = some y := by
    unfold set_Rank.f
    rw [Int.tmod_eq_emod_of_nonneg (by omega), hy]
  rw [hx, hy] at h
  have HX := Lib.hid hx; clear hx
  have HY := Lib.hid hy; clear hy
  have C1 := Lib.hid c1; clear c1
  have C2 := Lib.hid c2; clear c2
  have HS := Lib.hid h; clear h
  have e1 : IntKind.i64.wrap (x + a0_0) = x + a0_0 := IntWalk.i64_in _ (by omega)
  have e2 : IntKind.i64.wrap (y + a0_1) = y + a0_1 := IntWalk.i64_in _ (by omega)
  go_enter Tryd.func37, Tryd.ntmps37
  go_wp2
  go_quiet (first | (go_at_call 21; refine (set_File.calls _ _ _ C1.out).mono ?_; rintro e w' ⟨rfl, ⟨nd, rfl⟩⟩; first | exact ⟨rfl, _, World.drewN_drewN _ _ _⟩ | exact ⟨rfl, _, rfl⟩) | (go_at_call 22; refine (set_Rank.calls _ _ _ C2.out).mono ?_; rintro e w' ⟨rfl, ⟨nd, rfl⟩⟩; first | exact ⟨rfl, _, World.drewN_drewN _ _ _⟩ | exact ⟨rfl, _, rfl⟩) | (go_at_call 20; refine (set_Square.calls _ _ _ _ HS.out).mono ?_; rintro e w' ⟨rfl, ⟨nd, rfl⟩⟩; first | exact ⟨rfl, _, World.drewN_drewN _ _ _⟩ | exact ⟨rfl, _, rfl⟩))
  go_wp2
  go_ret
  exact ⟨rfl, pw_below_drewN ((Below.refl _ w).alloc (Nat.le_refl _) _) _⟩

/-! ### step_Of: function 24 -/
def step_Of.l0 : Nat → Int → Int → List (S52) → Int → Int → Int → Int → Option (Int × Int)
  | 0, _, _, _, _, _, _, _ => none
  | k + 1, x0, x1, x10, x11, x12, x256000, x256001 => if x12 < x11 then (if 0 ≤ x12 then (if x12 < (x10.length : Int) then ((piece_Side.f k x0).bind fun t262 => ((step_Dir_Turn.f ((rd_T52 x10 x12).f0) ((rd_T52 x10 x12).f1) t262).bind fun bt263 => ((step_Dir_From.f bt263.1 bt263.2 x1).bind fun t265 => ((set_Set_With.f k x256000 x256001 t265).bind fun bt266 => (step_Of.l0 k x0 x1 x10 x11 (wrap64 (x12 + 1)) bt266.1 bt266.2))))) else (none)) else (none)) else (some (x256000, x256001))
def step_Of.f (k : Nat) (a0 : Int) (a1 : Int) : Option (Int × Int) := (piece_Kind.f k a0).bind fun t256 => ((step_Dirs.f k t256).bind fun t257 => (step_Of.l0 k a0 a1 t257 (t257.length : Int) 0 0 0))
theorem step_Of.mono_l : ∀ k, (∀ y0 y1 y2 y3 y4 y5 y6, LeO (step_Of.l0 k y0 y1 y2 y3 y4 y5 y6) (step_Of.l0 (k + 1) y0 y1 y2 y3 y4 y5 y6))
  | 0 => fun _ _ _ _ _ _ _ r h => by simp [step_Of.l0] at h
  | k + 1 => by
    have ih0 := step_Of.mono_l k
    · intro y0 y1 y2 y3 y4 y5 y6
      unfold step_Of.l0
      repeat' first
      | (with_reducible exact ih0 _ _ _ _ _ _ _)
      | (with_reducible exact piece_Kind.mono _ _)
      | (with_reducible exact piece_Side.mono _ _)
      | (with_reducible exact set_Set_With.mono _ _ _ _)
      | (with_reducible exact step_Dirs.mono _ _)
      | (with_reducible exact LeO.refl _)
      | (with_reducible exact LeO.none _)
      | (with_reducible refine LeO.ite ?_ ?_)
      | (with_reducible refine LeO.bind ?_ (fun _ => ?_))
      | exact ih0 _ _ _ _ _ _ _
      | exact piece_Kind.mono _ _
      | exact piece_Side.mono _ _
      | exact set_Set_With.mono _ _ _ _
      | exact step_Dirs.mono _ _
      | exact LeO.none _
      | refine LeO.ite ?_ ?_
      | refine LeO.bind ?_ (fun _ => ?_)
theorem step_Of.mono : ∀ a0 a1 k, LeO (step_Of.f k a0 a1) (step_Of.f (k + 1) a0 a1) := by
  intro a0 a1 k
  have ih0 := step_Of.mono_l k
  unfold step_Of.f
  repeat' first
      | (with_reducible exact ih0 _ _ _ _ _ _ _)
      | (with_reducible exact piece_Kind.mono _ _)
      | (with_reducible exact piece_Side.mono _ _)
      | (with_reducible exact set_Set_With.mono _ _ _ _)
      | (with_reducible exact step_Dirs.mono _ _)
      | (with_reducible exact LeO.refl _)
      | (with_reducible exact LeO.none _)
      | (with_reducible refine LeO.ite ?_ ?_)
      | (with_reducible refine LeO.bind ?_ (fun _ => ?_))
      | exact ih0 _ _ _ _ _ _ _
      | exact piece_Kind.mono _ _
      | exact piece_Side.mono _ _
      | exact set_Set_With.mono _ _ _ _
      | exact step_Dirs.mono _ _
      | exact LeO.none _
      | refine LeO.ite ?_ ?_
      | refine LeO.bind ?_ (fun _ => ?_)
def step_Of.T5 : Bool × List (List Nat × List Nat) := (true, [([], []), ([], []), ([], []), ([2], [2]), ([1, 3, 3], [1, 3]), ([], []), ([4, 5, 4], [4, 5]), ([0, 6, 6], [0, 6]), ([7, 7, 0, 1, 2, 3, 4, 5, 6, 7], [7])])
def step_Of.B5 : List Nat := [0, 0, 0, 4, 14, 0, 62, 127, 255]
theorem step_Of.tab5 : rtab .any (opsOf Tryd.f24 5) = step_Of.T5 := by kernel_rfl
theorem step_Of.bits5 : waitsOk step_Of.T5.2 step_Of.B5 = true := by kernel_rfl
set_option maxHeartbeats 8000000 in
set_option maxRecDepth 100000 in
theorem step_Of.calls (k : Nat) (a0 : Int) (a1 : Int) (r1 : Int) (r2 : Int) (w : World) (h : step_Of.f k a0 a1 = some (r1, r2)) :
    Calls Tryd.prog 24 #[.int .i8 a0, .int .i64 a1] w fun e w' => e = .returned (.agg #[.int .u64 r1, .int .u64 r2]) ∧ Below w.heap.size w w' := by
  have hu26 := Tryd.underlying26
  have hu52 := Tryd.underlying52
  have HB := Aside0.mk (Below.refl w.heap.size w)
  have H : ((piece_Kind.f k a0).bind fun t256 => ((step_Dirs.f k t256).bind fun t257 => (step_Of.l0 k a0 a1 t257 (t257.length : Int) 0 0 0))) = some (r1, r2) := h
  clear h
  replace H := Option.bind_eq_some_iff.mp H
  obtain ⟨t256, A30, H⟩ := H
  replace H : ((step_Dirs.f k t256).bind fun t257 => (step_Of.l0 k a0 a1 t257 (t257.length : Int) 0 0 0)) = some (r1, r2) := H
  have A3 := Aside0.mk A30
  clear A30
  replace H := Option.bind_eq_some_iff.mp H
  obtain ⟨t257, A40, H⟩ := H
  replace H : (step_Of.l0 k a0 a1 t257 (t257.length : Int) 0 0 0) = some (r1, r2) := H
  have A4 := Aside0.mk A40
  clear A40
  have H' := Aside0.mk H
  clear H
  go_enter Tryd.func24, Tryd.ntmps24
  go_wp2_with (first | ((with_reducible refine gate_dst (N := 4) rfl ?_); refine box_event ?hg (N := 4) ?hd (cs := #[.int .u64 0, .int .u64 0]) (t := 26) ?hr ?_; (case hd => rfl); (case hg => rfl); (case hr => first | (go_simp; done) | (go_simp; rfl)); intro gb254 hg w5 hbox hb; have n0_ := Aside0.mk (below_step (by repeat (first | (with_reducible first | exact HB.out | apply below_alloc | apply pw_below_drewN | apply below_drew1) | exact HB.out)) hb); have n1_ := Aside0.mk (hbox); have n2_ := Aside0.mk ((by rw [hg]; exact (below_size (by repeat (first | (with_reducible first | exact HB.out | apply below_alloc | apply pw_below_drewN | apply below_drew1) | exact HB.out))) : w.heap.size ≤ gb254)); have n3_ := Aside0.mk ((by rw [hg]; exact (below_size (by repeat (first | (with_reducible first | exact HB.out | apply below_alloc | apply pw_below_drewN | apply below_drew1) | exact HB.out))) : w.heap.size ≤ gb254)); clear HB; have HB := n0_; have BK254 := n1_; have GW254 := n2_; have GE254 := n3_; clear n0_ n1_ n2_ n3_; clear hb hbox hg) | ((with_reducible refine gate_dst (N := 5) rfl ?_); refine box_event ?hg (N := 5) ?hd (cs := #[.int .u64 0, .int .u64 0]) (t := 26) ?hr ?_; (case hd => rfl); (case hg => rfl); (case hr => first | (go_simp; done) | (go_simp; rfl)); intro gb255 hg w6 hbox hb; have n0_ := Aside0.mk (blk_below (g := gb254) (o := .cells #[.int .u64 0, .int .u64 0] 26 (0, 0)) (by (with_reducible repeat (first | refine blk_drewN ?_ _ | refine blk_drew ?_ | refine blk_alloc ?_ _)); exact BK254.out) hb); have n1_ := Aside0.mk (below_step (by repeat (first | (with_reducible first | exact HB.out | apply below_alloc | apply pw_below_drewN | apply below_drew1 | refine below_set ?_ GE254.out) | exact HB.out)) hb); have n2_ := Aside0.mk (hbox); have n3_ := Aside0.mk ((by rw [hg]; exact (below_size (by repeat (first | (with_reducible first | exact HB.out | apply below_alloc | apply pw_below_drewN | apply below_drew1 | refine below_set ?_ GE254.out) | exact HB.out))) : w.heap.size ≤ gb255)); have n4_ := Aside0.mk ((by rw [hg]; exact (below_size (by repeat (first | (with_reducible first | exact HB.out | apply below_alloc | apply pw_below_drewN | apply below_drew1 | refine below_set ?_ GE254.out) | exact HB.out))) : w.heap.size ≤ gb255)); have n5_ := Aside0.mk ((by rw [hg]; exact Nat.ne_of_lt (blk_lt (g := gb254) (o := .cells #[.int .u64 0, .int .u64 0] 26 (0, 0)) (by (with_reducible repeat (first | refine blk_drewN ?_ _ | refine blk_drew ?_ | refine blk_alloc ?_ _)); exact BK254.out)) : gb254 ≠ gb255)); have n6_ := Aside0.mk ((by rw [hg]; exact Nat.ne_of_gt (blk_lt (g := gb254) (o := .cells #[.int .u64 0, .int .u64 0] 26 (0, 0)) (by (with_reducible repeat (first | refine blk_drewN ?_ _ | refine blk_drew ?_ | refine blk_alloc ?_ _)); exact BK254.out)) : gb255 ≠ gb254)); clear BK254; clear HB; have BK254 := n0_; have HB := n1_; have BK255 := n2_; have GW255 := n3_; have GE255 := n4_; have NB254_255 := n5_; have NB255_254 := n6_; clear n0_ n1_ n2_ n3_ n4_ n5_ n6_; clear hb hbox hg) | ((with_reducible refine gate_callee (f := 34) rfl ?_); refine goesL_ (some 9) rfl rfl Tryd.func34 (by kernel_rfl) rfl #[.int .i8 a0] rfl (by (try simp only [List.map_toArray, List.map_cons, List.map_nil]); first | done | rfl | (simp only [List.length_drop, List.length_take]; rfl)) ?_; (with_reducible refine (piece_Kind.calls k a0 t256 _ A3.out).mono ?_); rintro e w' ⟨rfl, ⟨nd, rfl⟩⟩; refine ⟨_, rfl, ?_⟩) | ((with_reducible refine gate_callee (f := 33) rfl ?_); refine goesL_ (some 10) rfl rfl Tryd.func33 (by kernel_rfl) rfl #[.int .i64 t256] rfl (by (try simp only [List.map_toArray, List.map_cons, List.map_nil]); first | done | rfl | (simp only [List.length_drop, List.length_take]; rfl)) ?_; (with_reducible refine (step_Dirs.calls k t256 t257 _ A4.out).mono ?_); rintro e w7 ⟨v258, rfl, ho0, hb⟩; refine ⟨_, rfl, ?_⟩; have n0_ := Aside0.mk (Kd.R_lower ho0 (below_size (by repeat (first | (with_reducible first | exact HB.out | apply below_alloc | apply pw_below_drewN | apply below_drew1 | refine below_set ?_ GE254.out | refine below_set ?_ GE255.out) | exact HB.out)))); have n1_ := Aside0.mk (blk_below (g := gb254) (o := .cells #[.int .u64 0, .int .u64 0] 26 (0, 0)) (by (with_reducible repeat (first | refine blk_drewN ?_ _ | refine blk_drew ?_ | refine blk_alloc ?_ _)); exact BK254.out) hb); have n2_ := Aside0.mk (blk_below (g := gb255) (o := .cells #[.int .u64 0, .int .u64 0] 26 (0, 0)) (by (with_reducible repeat (first | refine blk_drewN ?_ _ | refine blk_drew ?_ | refine blk_alloc ?_ _)); exact BK255.out) hb); have n3_ := Aside0.mk (below_step (by repeat (first | (with_reducible first | exact HB.out | apply below_alloc | apply pw_below_drewN | apply below_drew1 | refine below_set ?_ GE254.out | refine below_set ?_ GE255.out) | exact HB.out)) hb); clear BK254; clear BK255; clear HB; have HO259 := n0_; have BK254 := n1_; have BK255 := n2_; have HB := n3_; clear n0_ n1_ n2_ n3_; (try clear hb); (try clear hb2); (try clear hk); (try clear hi); (try clear ho0); obtain ⟨Ao8, co8, eo8⟩ := Kd.R_slice HO259.out; subst eo8))
  go_loopg [12] k (fun kq v12 w' => ∃ (x12_1 : Int) (x256000_1 : Int) (x256001_1 : Int), v12 = .int .i64 x12_1 ∧ Aside0 (step_Of.l0 kq a0 a1 t257 (t257.length : Int) x12_1 x256000_1 x256001_1 = some (r1, r2)) ∧ Aside0 (kq ≤ k) ∧ Aside0 (Kd.R k52 52 w' w.heap.size (fun _ => True) (.slice Ao8 t257.length co8) t257) ∧ Aside0 (w'.heap[gb254]? = some (.cells #[.int .u64 0, .int .u64 0] 26 (0, 0))) ∧ Aside0 (w'.heap[gb255]? = some (.cells #[.int .u64 x256000_1, .int .u64 x256001_1] 26 (0, 0))) ∧ Aside0 (Below w.heap.size w w'))
  case atStart => exact ⟨(0), (0), (0), (by first | rfl | (simp; done) | (simp [*]; done)), H', ⟨Nat.le_refl _⟩, ⟨by (with_reducible repeat (first | apply Kd.R_alloc | apply Kd.R_drewN | apply Kd.R_drew)); exact HO259.out⟩, ⟨by (with_reducible repeat (first | refine blk_drewN ?_ _ | refine blk_drew ?_ | refine blk_alloc ?_ _)); exact BK254.out⟩, ⟨by (with_reducible repeat (first | refine blk_drewN ?_ _ | refine blk_drew ?_ | refine blk_alloc ?_ _)); exact BK255.out⟩, ⟨by repeat (first | (with_reducible first | exact HB.out | apply below_alloc | apply pw_below_drewN | apply below_drew1 | refine below_set ?_ GE254.out | refine below_set ?_ GE255.out) | exact HB.out)⟩⟩
  case round =>
    clear H'
    try clear c2
    try clear p2
    try clear c3
    obtain ⟨x12_1, x256000_1, x256001_1, rfl, HA, HK1, HO_10, BK254, BK255, HB⟩ := hrel
    cases gk with
    | zero => exact absurd HA.out (by simp [step_Of.l0])
    | succ k1 =>
      have H := HA.out
      clear HA
      simp only [step_Of.l0] at H
      by_cases c9 : x12_1 < (t257.length : Int)
      · rw [if_pos c9] at H
        have c9b0 : decide (x12_1 < (t257.length : Int)) = true := decide_eq_true c9
        clear c9
        by_cases c10 : 0 ≤ x12_1
        · rw [if_pos c10] at H
          have c10b0 : decide (0 ≤ x12_1) = true := decide_eq_true c10
          clear c10
          by_cases c11 : x12_1 < (t257.length : Int)
          · rw [if_pos c11] at H
            have c11b0 : decide (x12_1 < (t257.length : Int)) = true := decide_eq_true c11
            clear c11
            replace H := Option.bind_eq_some_iff.mp H
            obtain ⟨t262, A120, H⟩ := H
            replace H : ((step_Dir_Turn.f ((rd_T52 t257 x12_1).f0) ((rd_T52 t257 x12_1).f1) t262).bind fun bt263 => ((step_Dir_From.f bt263.1 bt263.2 a1).bind fun t265 => ((set_Set_With.f k1 x256000_1 x256001_1 t265).bind fun bt266 => (step_Of.l0 k1 a0 a1 t257 (t257.length : Int) (wrap64 (x12_1 + 1)) bt266.1 bt266.2)))) = some (r1, r2) := H
            have A12 := Aside0.mk A120
            clear A120
            replace H := Option.bind_eq_some_iff.mp H
            obtain ⟨⟨t263, t264⟩, A130, H⟩ := H
            replace H : ((step_Dir_From.f t263 t264 a1).bind fun t265 => ((set_Set_With.f k1 x256000_1 x256001_1 t265).bind fun bt266 => (step_Of.l0 k1 a0 a1 t257 (t257.length : Int) (wrap64 (x12_1 + 1)) bt266.1 bt266.2))) = some (r1, r2) := H
            have A13 := Aside0.mk A130
            clear A130
            replace H := Option.bind_eq_some_iff.mp H
            obtain ⟨t265, A140, H⟩ := H
            replace H : ((set_Set_With.f k1 x256000_1 x256001_1 t265).bind fun bt266 => (step_Of.l0 k1 a0 a1 t257 (t257.length : Int) (wrap64 (x12_1 + 1)) bt266.1 bt266.2)) = some (r1, r2) := H
            have A14 := Aside0.mk A140
            clear A140
            replace H := Option.bind_eq_some_iff.mp H
            obtain ⟨⟨t266, t267⟩, A150, H⟩ := H
            replace H : (step_Of.l0 k1 a0 a1 t257 (t257.length : Int) (wrap64 (x12_1 + 1)) t266 t267) = some (r1, r2) := H
            have A15 := Aside0.mk A150
            clear A150
            have H' := Aside0.mk H
            clear H
            have p260 : 0 ≤ (x12_1 : Int) := of_decide_eq_true (by first | (with_reducible assumption) | assumption)
            have q260 : x12_1 < (t257.length : Int) := of_decide_eq_true (by first | (with_reducible assumption) | assumption)
            obtain ⟨ad260, e260, hx260_0, hx260_1⟩ := at_T52 (Kd.R_reads' HO_10.out).2.2 x12_1 p260 q260
            cases e260
            replace p260 := eq_true p260
            replace q260 := eq_true q260
            try go_wp2_with (first | ((with_reducible refine gate_dst (N := 7) rfl ?_); refine box_event ?hg (N := 7) ?hd (cs := #[.int .i64 0, .int .i64 0]) (t := 52) ?hr ?_; (case hd => rfl); (case hg => rfl); (case hr => first | (go_simp; done) | (go_simp; rfl)); intro gb261 hg w16 hbox hb; have n0_ := Aside0.mk (Kd.R_below (Kd.R_elderB (by (with_reducible repeat (first | apply Kd.R_alloc | apply Kd.R_drewN | apply Kd.R_drew)); exact HO_10.out) gb261 (Nat.le_of_eq hg.symm)) hb); have n1_ := Aside0.mk (blk_below (g := gb254) (o := .cells #[.int .u64 0, .int .u64 0] 26 (0, 0)) (by (with_reducible repeat (first | refine blk_drewN ?_ _ | refine blk_drew ?_ | refine blk_alloc ?_ _)); exact BK254.out) hb); have n2_ := Aside0.mk (blk_below (g := gb255) (o := .cells #[.int .u64 x256000_1, .int .u64 x256001_1] 26 (0, 0)) (by (with_reducible repeat (first | refine blk_drewN ?_ _ | refine blk_drew ?_ | refine blk_alloc ?_ _)); exact BK255.out) hb); have n3_ := Aside0.mk (below_step (by repeat (first | (with_reducible first | exact HB.out | apply below_alloc | apply pw_below_drewN | apply below_drew1 | refine below_set ?_ GE254.out | refine below_set ?_ GE255.out) | exact HB.out)) hb); have n4_ := Aside0.mk (hbox); have n5_ := Aside0.mk ((by rw [hg]; exact (below_size (by repeat (first | (with_reducible first | exact HB.out | apply below_alloc | apply pw_below_drewN | apply below_drew1 | refine below_set ?_ GE254.out | refine below_set ?_ GE255.out) | exact HB.out))) : w.heap.size ≤ gb261)); have n6_ := Aside0.mk ((by rw [hg]; exact (below_size (by repeat (first | (with_reducible first | exact HB.out | apply below_alloc | apply pw_below_drewN | apply below_drew1 | refine below_set ?_ GE254.out | refine below_set ?_ GE255.out) | exact HB.out))) : w.heap.size ≤ gb261)); have n7_ := Aside0.mk ((by rw [hg]; exact Nat.ne_of_lt (blk_lt (g := gb254) (o := .cells #[.int .u64 0, .int .u64 0] 26 (0, 0)) (by (with_reducible repeat (first | refine blk_drewN ?_ _ | refine blk_drew ?_ | refine blk_alloc ?_ _)); exact BK254.out)) : gb254 ≠ gb261)); have n8_ := Aside0.mk ((by rw [hg]; exact Nat.ne_of_gt (blk_lt (g := gb254) (o := .cells #[.int .u64 0, .int .u64 0] 26 (0, 0)) (by (with_reducible repeat (first | refine blk_drewN ?_ _ | refine blk_drew ?_ | refine blk_alloc ?_ _)); exact BK254.out)) : gb261 ≠ gb254)); have n9_ := Aside0.mk ((by rw [hg]; exact Nat.ne_of_lt (blk_lt (g := gb255) (o := .cells #[.int .u64 x256000_1, .int .u64 x256001_1] 26 (0, 0)) (by (with_reducible repeat (first | refine blk_drewN ?_ _ | refine blk_drew ?_ | refine blk_alloc ?_ _)); exact BK255.out)) : gb255 ≠ gb261)); have n10_ := Aside0.mk ((by rw [hg]; exact Nat.ne_of_gt (blk_lt (g := gb255) (o := .cells #[.int .u64 x256000_1, .int .u64 x256001_1] 26 (0, 0)) (by (with_reducible repeat (first | refine blk_drewN ?_ _ | refine blk_drew ?_ | refine blk_alloc ?_ _)); exact BK255.out)) : gb261 ≠ gb255)); clear HO_10; clear BK254; clear BK255; clear HB; have HO_10 := n0_; have BK254 := n1_; have BK255 := n2_; have HB := n3_; have BK261 := n4_; have GW261 := n5_; have GE261 := n6_; have NB254_261 := n7_; have NB261_254 := n8_; have NB255_261 := n9_; have NB261_255 := n10_; clear n0_ n1_ n2_ n3_ n4_ n5_ n6_ n7_ n8_ n9_ n10_; clear hb hbox hg; have hnb17 := NB261_254.out; have hnc17 := NB254_261.out; have hnb18 := NB261_255.out; have hnc18 := NB255_261.out; have hcz19_0 : w16.cell? ⟨gb261, 0, none⟩ = some (.int .i64 0) := (blk_cell BK261.out 0).trans rfl; have hcz19_1 : w16.cell? ⟨gb261, 1, none⟩ = some (.int .i64 0) := (blk_cell BK261.out 1).trans rfl; have hfz19_0 := blk_frozen BK261.out 0; have hfz19_1 := blk_frozen BK261.out 1))
            have n0_ : Aside0 (Kd.R k52 52 ((w16.setCell ⟨gb261, 0, none⟩ (.int .i64 ((rd_T52 t257 x12_1).f0))).setCell ⟨gb261, 1, none⟩ (.int .i64 ((rd_T52 t257 x12_1).f1))) w.heap.size (fun k_ => k_ ≠ gb261) (.slice (some ad260) t257.length co8) t257) := ⟨by (with_reducible repeat (first | apply Kd.R_alloc | apply Kd.R_drewN | apply Kd.R_drew)); exact Kd.R_mono (Kd.R_far (p := ⟨gb261, 1, none⟩) (Kd.R_far (p := ⟨gb261, 0, none⟩) (Kd.R_mono HO_10.out (fun k_ hk => (⟨hk, hk.2⟩ : _ ∧ k_ ≠ gb261))) (fun _ hk => hk.2) (.int .i64 ((rd_T52 t257 x12_1).f0))) (fun _ hk => hk.2) (.int .i64 ((rd_T52 t257 x12_1).f1))) (fun _ hk => hk.1.2)⟩
            have n1_ : Aside0 (((w16.setCell ⟨gb261, 0, none⟩ (.int .i64 ((rd_T52 t257 x12_1).f0))).setCell ⟨gb261, 1, none⟩ (.int .i64 ((rd_T52 t257 x12_1).f1))).heap[gb254]? = some (.cells #[.int .u64 0, .int .u64 0] 26 (0, 0))) := ⟨by (with_reducible repeat (first | refine blk_drewN ?_ _ | refine blk_drew ?_ | refine blk_alloc ?_ _)); refine blk_far ?_ NB254_261.out _; (with_reducible repeat (first | refine blk_drewN ?_ _ | refine blk_drew ?_ | refine blk_alloc ?_ _)); refine blk_far ?_ NB254_261.out _; (with_reducible repeat (first | refine blk_drewN ?_ _ | refine blk_drew ?_ | refine blk_alloc ?_ _)); exact BK254.out⟩
            have n2_ : Aside0 (((w16.setCell ⟨gb261, 0, none⟩ (.int .i64 ((rd_T52 t257 x12_1).f0))).setCell ⟨gb261, 1, none⟩ (.int .i64 ((rd_T52 t257 x12_1).f1))).heap[gb255]? = some (.cells #[.int .u64 x256000_1, .int .u64 x256001_1] 26 (0, 0))) := ⟨by (with_reducible repeat (first | refine blk_drewN ?_ _ | refine blk_drew ?_ | refine blk_alloc ?_ _)); refine blk_far ?_ NB255_261.out _; (with_reducible repeat (first | refine blk_drewN ?_ _ | refine blk_drew ?_ | refine blk_alloc ?_ _)); refine blk_far ?_ NB255_261.out _; (with_reducible repeat (first | refine blk_drewN ?_ _ | refine blk_drew ?_ | refine blk_alloc ?_ _)); exact BK255.out⟩
            have n3_ : Aside0 (((w16.setCell ⟨gb261, 0, none⟩ (.int .i64 ((rd_T52 t257 x12_1).f0))).setCell ⟨gb261, 1, none⟩ (.int .i64 ((rd_T52 t257 x12_1).f1))).heap[gb261]? = some (.cells #[.int .i64 ((rd_T52 t257 x12_1).f0), .int .i64 ((rd_T52 t257 x12_1).f1)] 52 (0, 0))) := ⟨by (with_reducible repeat (first | refine blk_drewN ?_ _ | refine blk_drew ?_ | refine blk_alloc ?_ _)); refine blk_put (cs := #[.int .i64 ((rd_T52 t257 x12_1).f0), .int .i64 0]) ?_ 1 _ (by first | rfl | (simp [*]; done)); (with_reducible repeat (first | refine blk_drewN ?_ _ | refine blk_drew ?_ | refine blk_alloc ?_ _)); refine blk_put (cs := #[.int .i64 0, .int .i64 0]) ?_ 0 _ (by first | rfl | (simp [*]; done)); (with_reducible repeat (first | refine blk_drewN ?_ _ | refine blk_drew ?_ | refine blk_alloc ?_ _)); exact BK261.out⟩
            have n4_ : Aside0 (Below w.heap.size w ((w16.setCell ⟨gb261, 0, none⟩ (.int .i64 ((rd_T52 t257 x12_1).f0))).setCell ⟨gb261, 1, none⟩ (.int .i64 ((rd_T52 t257 x12_1).f1)))) := ⟨by repeat (first | (with_reducible first | exact HB.out | apply below_alloc | apply pw_below_drewN | apply below_drew1 | refine below_set ?_ GE254.out | refine below_set ?_ GE255.out | refine below_set ?_ GE261.out) | exact HB.out)⟩
            (try clear HO_10)
            (try clear BK254)
            (try clear BK255)
            (try clear BK261)
            (try clear HB)
            generalize ((w16.setCell ⟨gb261, 0, none⟩ (.int .i64 ((rd_T52 t257 x12_1).f0))).setCell ⟨gb261, 1, none⟩ (.int .i64 ((rd_T52 t257 x12_1).f1))) = w20 at n0_ n1_ n2_ n3_ n4_ ⊢
            have HO_10 := n0_
            have BK254 := n1_
            have BK255 := n2_
            have BK261 := n3_
            have HB := n4_
            clear n0_ n1_ n2_ n3_ n4_
            have n0_ := Aside0.mk (Kd.R_drew HO_10.out)
            have n1_ := Aside0.mk (blk_drew BK254.out)
            have n2_ := Aside0.mk (blk_drew BK255.out)
            have n3_ := Aside0.mk (blk_drew BK261.out)
            have n4_ := Aside0.mk (below_drew1 HB.out)
            clear HO_10
            clear BK254
            clear BK255
            clear BK261
            clear HB
            have HO_10 := n0_
            have BK254 := n1_
            have BK255 := n2_
            have BK261 := n3_
            have HB := n4_
            clear n0_ n1_ n2_ n3_ n4_
            refine start_ (n := 9) (S := fun w' => w'.cell? ⟨gb255, 0, none⟩ = some (.int .u64 x256000_1) ∧ w'.cell? ⟨gb255, 1, none⟩ = some (.int .u64 x256001_1) ∧ w'.cell? ⟨gb261, 0, none⟩ = some (.int .i64 ((rd_T52 t257 x12_1).f0)) ∧ w'.cell? ⟨gb261, 1, none⟩ = some (.int .i64 ((rd_T52 t257 x12_1).f1))) (ds := [8]) #[false, false, false, false, false, false, false, false, false] (by kernel_rfl) rfl rfl ⟨(blk_cell BK255.out 0).trans rfl, (blk_cell BK255.out 1).trans rfl, (blk_cell BK261.out 0).trans rfl, (blk_cell BK261.out 1).trans rfl⟩ (fun hHeld => ?_); refine with_tabW step_Of.tab5 step_Of.bits5 (fun HT_ HW_ => ?_)
            generalize w20.drew = w21 at HO_10 BK254 BK255 BK261 HB hHeld ⊢
            refine pure_ (i := 2) (N := some 18) (v := ?_) (a' := ?_) #[false, false, true, false, false, false, false, false, false] rfl rfl (any_of HT_.out (by kernel_rfl)) (fun _ _ _ h => h) (Or.inl ⟨by rfl, ?_⟩) ?_ ?_
            rotate_left
            · intro w'
              go_simp
              with_reducible rfl
            rotate_left
            · simp only [Act.put, List.setIfInBounds_toArray, List.set_cons_zero, List.set_cons_succ, i64_w, i32_w]
              rfl
            refine pure_ (i := 5) (N := some 21) (v := ?_) (a' := ?_) #[false, false, true, false, false, true, false, false, false] rfl rfl (any_of HT_.out (by kernel_rfl)) (fun _ _ _ h => h) (Or.inl ⟨by rfl, ?_⟩) ?_ ?_
            rotate_left
            · intro w'
              go_simp
              with_reducible rfl
            rotate_left
            · simp only [Act.put, List.setIfInBounds_toArray, List.set_cons_zero, List.set_cons_succ, i64_w, i32_w]
              rfl
            refine take_ (i := 0) (N := some 16) (v := ?_) (a' := ?_) #[true, false, true, false, false, true, false, false, false] rfl rfl (take_ofW HT_.out HW_.out (by kernel_rfl)) (fun _ _ _ h => h) (Or.inl ⟨by rfl, ?_⟩) hHeld ?_ ?_
            rotate_left
            · rintro w' ⟨s0, s1, s2, s3⟩
              go_simp
              with_reducible rfl
            rotate_left
            · simp only [Act.put, List.setIfInBounds_toArray, List.set_cons_zero, List.set_cons_succ, i64_w, i32_w]
              rfl
            refine take_ (i := 1) (N := some 17) (v := ?_) (a' := ?_) #[true, true, true, false, false, true, false, false, false] rfl rfl (take_ofW HT_.out HW_.out (by kernel_rfl)) (fun _ _ _ h => h) (Or.inl ⟨by rfl, ?_⟩) hHeld ?_ ?_
            rotate_left
            · rintro w' ⟨s0, s1, s2, s3⟩
              go_simp
              with_reducible rfl
            rotate_left
            · simp only [Act.put, List.setIfInBounds_toArray, List.set_cons_zero, List.set_cons_succ, i64_w, i32_w]
              rfl
            refine one_ (i := 3) (N := some 19) #[true, true, true, true, false, true, false, false, false] rfl rfl (one_of HT_.out (by kernel_rfl)) (by decide) (fun K hK => ?_)
            refine goes_ Tryd.func36 (by kernel_rfl) rfl #[.int .i8 a0] (by rfl) rfl rfl (by (try simp only [List.map_toArray, List.map_cons, List.map_nil]); first | done | rfl | (simp only [List.length_drop, List.length_take]; rfl)) ?_
            with_reducible refine (piece_Side.calls k1 a0 t262 _ A12.out).mono ?_
            rintro e w' ⟨rfl, ⟨nd, rfl⟩⟩
            refine ⟨_, rfl, ?_⟩
            refine hK.out _ _ ⟨(blk_cell BK255.out 0).trans rfl, (blk_cell BK255.out 1).trans rfl, (blk_cell BK261.out 0).trans rfl, (blk_cell BK261.out 1).trans rfl⟩ (fun hHeld => ?_)
            clear hK K
            refine norm_ (a' := ?_) ?_ ?_
            rotate_left
            · show Act.put _ (some 19) _ = _
              simp only [Act.put, List.setIfInBounds_toArray, List.set_cons_zero, List.set_cons_succ, i64_w, i32_w]
              rfl
            refine one_ (i := 4) (N := some 20) #[true, true, true, true, true, true, false, false, false] rfl rfl (one_of HT_.out (by kernel_rfl)) (by decide) (fun K hK => ?_)
            refine goes_ Tryd.func35 (by kernel_rfl) rfl #[.agg #[.int .i64 ((rd_T52 t257 x12_1).f0), .int .i64 ((rd_T52 t257 x12_1).f1)], .int .i64 t262] (by rfl) rfl rfl (by (try simp only [List.map_toArray, List.map_cons, List.map_nil]); first | done | rfl | (simp only [List.length_drop, List.length_take]; rfl)) ?_
            with_reducible refine (step_Dir_Turn.calls ((rd_T52 t257 x12_1).f0) ((rd_T52 t257 x12_1).f1) t262 t263 t264 _ A13.out).mono ?_
            rintro e w22 ⟨rfl, hb⟩
            refine ⟨_, rfl, ?_⟩
            have n0_ := Aside0.mk (Kd.R_below (by (with_reducible repeat (first | apply Kd.R_alloc | apply Kd.R_drewN | apply Kd.R_drew)); exact HO_10.out) hb)
            have n1_ := Aside0.mk (blk_below (g := gb254) (o := .cells #[.int .u64 0, .int .u64 0] 26 (0, 0)) (by (with_reducible repeat (first | refine blk_drewN ?_ _ | refine blk_drew ?_ | refine blk_alloc ?_ _)); exact BK254.out) hb)
            have n2_ := Aside0.mk (blk_below (g := gb255) (o := .cells #[.int .u64 x256000_1, .int .u64 x256001_1] 26 (0, 0)) (by (with_reducible repeat (first | refine blk_drewN ?_ _ | refine blk_drew ?_ | refine blk_alloc ?_ _)); exact BK255.out) hb)
            have n3_ := Aside0.mk (blk_below (g := gb261) (o := .cells #[.int .i64 ((rd_T52 t257 x12_1).f0), .int .i64 ((rd_T52 t257 x12_1).f1)] 52 (0, 0)) (by (with_reducible repeat (first | refine blk_drewN ?_ _ | refine blk_drew ?_ | refine blk_alloc ?_ _)); exact BK261.out) hb)
            have n4_ := Aside0.mk (below_step (by repeat (first | (with_reducible first | exact HB.out | apply below_alloc | apply pw_below_drewN | apply below_drew1 | refine below_set ?_ GE254.out | refine below_set ?_ GE255.out | refine below_set ?_ GE261.out) | exact HB.out)) hb)
            clear HO_10
            clear BK254
            clear BK255
            clear BK261
            clear HB
            have HO_10 := n0_
            have BK254 := n1_
            have BK255 := n2_
            have BK261 := n3_
            have HB := n4_
            clear n0_ n1_ n2_ n3_ n4_
            (try clear hb)
            (try clear hb2)
            (try clear hk)
            (try clear hi)
            refine hK.out _ _ ⟨(blk_cell BK255.out 0).trans rfl, (blk_cell BK255.out 1).trans rfl, (blk_cell BK261.out 0).trans rfl, (blk_cell BK261.out 1).trans rfl⟩ (fun hHeld => ?_)
            clear hK K
            refine norm_ (a' := ?_) ?_ ?_
            rotate_left
            · show Act.put _ (some 20) _ = _
              simp only [Act.put, List.setIfInBounds_toArray, List.set_cons_zero, List.set_cons_succ, i64_w, i32_w]
              rfl
            refine one_ (i := 6) (N := some 22) #[true, true, true, true, true, true, true, false, false] rfl rfl (one_of HT_.out (by kernel_rfl)) (by decide) (fun K hK => ?_)
            refine goes_ Tryd.func37 (by kernel_rfl) rfl #[.agg #[.int .i64 t263, .int .i64 t264], .int .i64 a1] (by rfl) rfl rfl (by (try simp only [List.map_toArray, List.map_cons, List.map_nil]); first | done | rfl | (simp only [List.length_drop, List.length_take]; rfl)) ?_
            with_reducible refine (step_Dir_From.calls t263 t264 a1 t265 _ A14.out).mono ?_
            rintro e w23 ⟨rfl, hb⟩
            refine ⟨_, rfl, ?_⟩
            have n0_ := Aside0.mk (Kd.R_below (by (with_reducible repeat (first | apply Kd.R_alloc | apply Kd.R_drewN | apply Kd.R_drew)); exact HO_10.out) hb)
            have n1_ := Aside0.mk (blk_below (g := gb254) (o := .cells #[.int .u64 0, .int .u64 0] 26 (0, 0)) (by (with_reducible repeat (first | refine blk_drewN ?_ _ | refine blk_drew ?_ | refine blk_alloc ?_ _)); exact BK254.out) hb)
            have n2_ := Aside0.mk (blk_below (g := gb255) (o := .cells #[.int .u64 x256000_1, .int .u64 x256001_1] 26 (0, 0)) (by (with_reducible repeat (first | refine blk_drewN ?_ _ | refine blk_drew ?_ | refine blk_alloc ?_ _)); exact BK255.out) hb)
            have n3_ := Aside0.mk (blk_below (g := gb261) (o := .cells #[.int .i64 ((rd_T52 t257 x12_1).f0), .int .i64 ((rd_T52 t257 x12_1).f1)] 52 (0, 0)) (by (with_reducible repeat (first | refine blk_drewN ?_ _ | refine blk_drew ?_ | refine blk_alloc ?_ _)); exact BK261.out) hb)
            have n4_ := Aside0.mk (below_step (by repeat (first | (with_reducible first | exact HB.out | apply below_alloc | apply pw_below_drewN | apply below_drew1 | refine below_set ?_ GE254.out | refine below_set ?_ GE255.out | refine below_set ?_ GE261.out) | exact HB.out)) hb)
            clear HO_10
            clear BK254
            clear BK255
            clear BK261
            clear HB
            have HO_10 := n0_
            have BK254 := n1_
            have BK255 := n2_
            have BK261 := n3_
            have HB := n4_
            clear n0_ n1_ n2_ n3_ n4_
            (try clear hb)
            (try clear hb2)
            (try clear hk)
            (try clear hi)
            refine hK.out _ _ ⟨(blk_cell BK255.out 0).trans rfl, (blk_cell BK255.out 1).trans rfl, (blk_cell BK261.out 0).trans rfl, (blk_cell BK261.out 1).trans rfl⟩ (fun hHeld => ?_)
            clear hK K
            refine norm_ (a' := ?_) ?_ ?_
            rotate_left
            · show Act.put _ (some 22) _ = _
              simp only [Act.put, List.setIfInBounds_toArray, List.set_cons_zero, List.set_cons_succ, i64_w, i32_w]
              rfl
            refine one_ (i := 7) (N := some 23) #[true, true, true, true, true, true, true, true, false] rfl rfl (one_of HT_.out (by kernel_rfl)) (by decide) (fun K hK => ?_)
            refine goes_ Tryd.func28 (by kernel_rfl) rfl #[.agg #[.int .u64 x256000_1, .int .u64 x256001_1], .int .i64 t265] (by rfl) rfl rfl (by (try simp only [List.map_toArray, List.map_cons, List.map_nil]); first | done | rfl | (simp only [List.length_drop, List.length_take]; rfl)) ?_
            with_reducible refine (set_Set_With.calls k1 x256000_1 x256001_1 t265 t266 t267 _ A15.out).mono ?_
            rintro e w24 ⟨rfl, hb⟩
            refine ⟨_, rfl, ?_⟩
            have n0_ := Aside0.mk (Kd.R_below (by (with_reducible repeat (first | apply Kd.R_alloc | apply Kd.R_drewN | apply Kd.R_drew)); exact HO_10.out) hb)
            have n1_ := Aside0.mk (blk_below (g := gb254) (o := .cells #[.int .u64 0, .int .u64 0] 26 (0, 0)) (by (with_reducible repeat (first | refine blk_drewN ?_ _ | refine blk_drew ?_ | refine blk_alloc ?_ _)); exact BK254.out) hb)
            have n2_ := Aside0.mk (blk_below (g := gb255) (o := .cells #[.int .u64 x256000_1, .int .u64 x256001_1] 26 (0, 0)) (by (with_reducible repeat (first | refine blk_drewN ?_ _ | refine blk_drew ?_ | refine blk_alloc ?_ _)); exact BK255.out) hb)
            have n3_ := Aside0.mk (blk_below (g := gb261) (o := .cells #[.int .i64 ((rd_T52 t257 x12_1).f0), .int .i64 ((rd_T52 t257 x12_1).f1)] 52 (0, 0)) (by (with_reducible repeat (first | refine blk_drewN ?_ _ | refine blk_drew ?_ | refine blk_alloc ?_ _)); exact BK261.out) hb)
            have n4_ := Aside0.mk (below_step (by repeat (first | (with_reducible first | exact HB.out | apply below_alloc | apply pw_below_drewN | apply below_drew1 | refine below_set ?_ GE254.out | refine below_set ?_ GE255.out | refine below_set ?_ GE261.out) | exact HB.out)) hb)
            clear HO_10
            clear BK254
            clear BK255
            clear BK261
            clear HB
            have HO_10 := n0_
            have BK254 := n1_
            have BK255 := n2_
            have BK261 := n3_
            have HB := n4_
            clear n0_ n1_ n2_ n3_ n4_
            (try clear hb)
            (try clear hb2)
            (try clear hk)
            (try clear hi)
            refine hK.out _ _ ⟨(blk_cell BK255.out 0).trans rfl, (blk_cell BK255.out 1).trans rfl, (blk_cell BK261.out 0).trans rfl, (blk_cell BK261.out 1).trans rfl⟩ (fun hHeld => ?_)
            clear hK K
            refine norm_ (a' := ?_) ?_ ?_
            rotate_left
            · show Act.put _ (some 23) _ = _
              simp only [Act.put, List.setIfInBounds_toArray, List.set_cons_zero, List.set_cons_succ, i64_w, i32_w]
              rfl
            refine last_ (i := 8) (N := none) #[true, true, true, true, true, true, true, true, true] rfl rfl (one_of HT_.out (by kernel_rfl)) (by decide) (fun K hK => ?_)
            have hs25 : w24.cell? ⟨gb255, 0, none⟩ = some (.int .u64 x256000_1) := (blk_cell BK255.out 0).trans rfl
            have hfs25 := blk_frozen BK255.out 0
            have hns25_0 := NB254_255.out
            have hns25_2 := NB261_255.out
            have hms25_0 := NB255_254.out
            have hms25_2 := NB255_261.out
            have hs26 : w24.cell? ⟨gb255, 1, none⟩ = some (.int .u64 x256001_1) := (blk_cell BK255.out 1).trans rfl
            have hfs26 := blk_frozen BK255.out 1
            have hns26_0 := NB254_255.out
            have hns26_2 := NB261_255.out
            have hms26_0 := NB255_254.out
            have hms26_2 := NB255_261.out
            refine skip_ (w1 := ?_) (by rfl) rfl ?_ ?_
            rotate_left
            · go_simp
              rfl
            refine hK.out _ _ ?_
            clear hK K
            refine done_ (done_of HT_.out (by kernel_rfl)) ?_
            try go_wp2
            go_roundg k1
            case measure => have := HK1.out; omega
            case rel => exact ⟨(wrap64 (x12_1 + 1)), (t266), (t267), (by first | rfl | (simp; done) | (simp [*]; done)), H', ⟨by have := HK1.out; omega⟩, ⟨by (with_reducible repeat (first | apply Kd.R_alloc | apply Kd.R_drewN | apply Kd.R_drew)); exact Kd.R_mono (Kd.R_far (p := ⟨gb255, 1, none⟩) (Kd.R_far (p := ⟨gb255, 0, none⟩) (Kd.R_types HO_10.out BK255.out (by decide)) (fun _ hk => hk.2) (.int .u64 t266)) (fun _ hk => hk.2) (.int .u64 t267)) (fun _ hk => trivial)⟩, ⟨by (with_reducible repeat (first | refine blk_drewN ?_ _ | refine blk_drew ?_ | refine blk_alloc ?_ _)); refine blk_far ?_ NB254_255.out _; (with_reducible repeat (first | refine blk_drewN ?_ _ | refine blk_drew ?_ | refine blk_alloc ?_ _)); refine blk_far ?_ NB254_255.out _; (with_reducible repeat (first | refine blk_drewN ?_ _ | refine blk_drew ?_ | refine blk_alloc ?_ _)); exact BK254.out⟩, ⟨by (with_reducible repeat (first | refine blk_drewN ?_ _ | refine blk_drew ?_ | refine blk_alloc ?_ _)); refine blk_put (cs := #[.int .u64 t266, .int .u64 x256001_1]) ?_ 1 _ (by first | rfl | (simp [*]; done)); (with_reducible repeat (first | refine blk_drewN ?_ _ | refine blk_drew ?_ | refine blk_alloc ?_ _)); refine blk_put (cs := #[.int .u64 x256000_1, .int .u64 x256001_1]) ?_ 0 _ (by first | rfl | (simp [*]; done)); (with_reducible repeat (first | refine blk_drewN ?_ _ | refine blk_drew ?_ | refine blk_alloc ?_ _)); exact BK255.out⟩, ⟨by repeat (first | (with_reducible first | exact HB.out | apply below_alloc | apply pw_below_drewN | apply below_drew1 | refine below_set ?_ GE254.out | refine below_set ?_ GE255.out | refine below_set ?_ GE261.out) | exact HB.out)⟩⟩
          · rw [if_neg c11] at H
            exact absurd H (by simp)
        · rw [if_neg c10] at H
          exact absurd H (by simp)
      · rw [if_neg c9] at H
        have c9b0 : decide (x12_1 < (t257.length : Int)) = false := decide_eq_false c9
        clear c9
        simp only [Option.some.injEq, Prod.mk.injEq] at H
        obtain ⟨rfl, rfl⟩ := H
        have hnb27 := NB255_254.out
        have hnc27 := NB254_255.out
        have hcz28_0 : wr.cell? ⟨gb255, 0, none⟩ = some (.int .u64 x256000_1) := (blk_cell BK255.out 0).trans rfl
        have hcz28_1 : wr.cell? ⟨gb255, 1, none⟩ = some (.int .u64 x256001_1) := (blk_cell BK255.out 1).trans rfl
        have hfz28_0 := blk_frozen BK255.out 0
        have hfz28_1 := blk_frozen BK255.out 1
        have hcz29_0 : wr.cell? ⟨gb254, 0, none⟩ = some (.int .u64 0) := (blk_cell BK254.out 0).trans rfl
        have hcz29_1 : wr.cell? ⟨gb254, 1, none⟩ = some (.int .u64 0) := (blk_cell BK254.out 1).trans rfl
        have hfz29_0 := blk_frozen BK254.out 0
        have hfz29_1 := blk_frozen BK254.out 1
        go_wp2
        refine bodyPost_ret (results_cell_row rfl _ _ gb254 26 #[.int .u64 x256000_1, .int .u64 x256001_1] (0, 0) _ rfl (by (with_reducible repeat (first | refine blk_drewN ?_ _ | refine blk_drew ?_ | refine blk_alloc ?_ _)); refine blk_put (cs := #[.int .u64 x256000_1, .int .u64 0]) ?_ 1 _ (by first | rfl | (simp [*]; done)); (with_reducible repeat (first | refine blk_drewN ?_ _ | refine blk_drew ?_ | refine blk_alloc ?_ _)); refine blk_put (cs := #[.int .u64 0, .int .u64 0]) ?_ 0 _ (by first | rfl | (simp [*]; done)); (with_reducible repeat (first | refine blk_drewN ?_ _ | refine blk_drew ?_ | refine blk_alloc ?_ _)); exact BK254.out) Tryd.underlying26 rfl (by kernel_rfl)) rfl ?_
        exact ⟨by first | rfl | (simp [errW_none, errW_some] <;> rfl) | (simp [*, errW_none, errW_some] <;> rfl) | (simp [*, errW_none, errW_some]; generalize ByteArray.toList _ = q_; cases q_ <;> rfl), by repeat (first | (with_reducible first | exact HB.out | apply below_alloc | apply pw_below_drewN | apply below_drew1 | refine below_set ?_ GE254.out | refine below_set ?_ GE255.out) | exact HB.out)⟩

/-! ### kakugyolaw03_steps: function 23 -/
def kakugyolaw03_steps.f (k : Nat)  : Option (Bool) := (step_Of.f k 1 40).bind fun bt268 => ((set_Of.f k (([39] : List Int))).bind fun bt273 => (if (bt268.1 == bt273.1 && (bt268.2 == bt273.2)) = true then ((step_Of.f k 17 40).bind fun bt275 => ((set_Of.f k (([41] : List Int))).bind fun bt280 => (if (bt275.1 == bt280.1 && (bt275.2 == bt280.2)) = true then ((step_Of.f k 8 40).bind fun bt282 => ((set_Set_Count.f bt282.1 bt282.2).bind fun t284 => (some (t284 == 8)))) else (some false)))) else (some false)))
theorem kakugyolaw03_steps.mono : ∀ k, LeO (kakugyolaw03_steps.f k ) (kakugyolaw03_steps.f (k + 1) ) := by
  intro  k
  unfold kakugyolaw03_steps.f
  repeat' first
      | (with_reducible exact set_Of.mono _ _)
      | (with_reducible exact step_Of.mono _ _ _)
      | (with_reducible exact LeO.refl _)
      | (with_reducible exact LeO.none _)
      | (with_reducible refine LeO.ite ?_ ?_)
      | (with_reducible refine LeO.bind ?_ (fun _ => ?_))
      | exact set_Of.mono _ _
      | exact step_Of.mono _ _ _
      | exact LeO.none _
      | refine LeO.ite ?_ ?_
      | refine LeO.bind ?_ (fun _ => ?_)
set_option maxHeartbeats 8000000 in
set_option maxRecDepth 100000 in
theorem kakugyolaw03_steps.calls (k : Nat)  (r : Bool) (w : World) (h : kakugyolaw03_steps.f k  = some r) :
    Calls Tryd.prog 23 #[] w fun e w' => e = .returned (.bool r) ∧ Below w.heap.size w w' := by
  have HB := Aside0.mk (Below.refl w.heap.size w)
  have H : ((step_Of.f k 1 40).bind fun bt268 => ((set_Of.f k (([39] : List Int))).bind fun bt273 => (if (bt268.1 == bt273.1 && (bt268.2 == bt273.2)) = true then ((step_Of.f k 17 40).bind fun bt275 => ((set_Of.f k (([41] : List Int))).bind fun bt280 => (if (bt275.1 == bt280.1 && (bt275.2 == bt280.2)) = true then ((step_Of.f k 8 40).bind fun bt282 => ((set_Set_Count.f bt282.1 bt282.2).bind fun t284 => (some (t284 == 8)))) else (some false)))) else (some false)))) = some r := h
  clear h
  replace H := Option.bind_eq_some_iff.mp H
  obtain ⟨⟨t268, t269⟩, A10, H⟩ := H
  replace H : ((set_Of.f k (([39] : List Int))).bind fun bt273 => (if (t268 == bt273.1 && (t269 == bt273.2)) = true then ((step_Of.f k 17 40).bind fun bt275 => ((set_Of.f k (([41] : List Int))).bind fun bt280 => (if (bt275.1 == bt280.1 && (bt275.2 == bt280.2)) = true then ((step_Of.f k 8 40).bind fun bt282 => ((set_Set_Count.f bt282.1 bt282.2).bind fun t284 => (some (t284 == 8)))) else (some false)))) else (some false))) = some r := H
  have A1 := Aside0.mk A10
  clear A10
  obtain ⟨y270, hy270⟩ : ∃ y_ : List Int, y_ = (([39] : List Int)) := ⟨_, rfl⟩
  replace H : ((set_Of.f k y270).bind fun bt273 => (if (t268 == bt273.1 && (t269 == bt273.2)) = true then ((step_Of.f k 17 40).bind fun bt275 => ((set_Of.f k (([41] : List Int))).bind fun bt280 => (if (bt275.1 == bt280.1 && (bt275.2 == bt280.2)) = true then ((step_Of.f k 8 40).bind fun bt282 => ((set_Set_Count.f bt282.1 bt282.2).bind fun t284 => (some (t284 == 8)))) else (some false)))) else (some false))) = some r := by first | (rw [hy270]; with_reducible exact H) | (have H2_ := (Option.bind_some _ _).symm.trans H; rw [hy270]; with_reducible exact H2_) | (have H2_ := (Option.bind_some _ _).symm.trans H; with_reducible exact H2_) | with_reducible exact H | (rw [hy270]; exact H) | exact H
  have Ny270 := Aside0.mk hy270
  clear hy270
  replace H := Option.bind_eq_some_iff.mp H
  obtain ⟨⟨t273, t274⟩, A20, H⟩ := H
  replace H : (if (t268 == t273 && (t269 == t274)) = true then ((step_Of.f k 17 40).bind fun bt275 => ((set_Of.f k (([41] : List Int))).bind fun bt280 => (if (bt275.1 == bt280.1 && (bt275.2 == bt280.2)) = true then ((step_Of.f k 8 40).bind fun bt282 => ((set_Set_Count.f bt282.1 bt282.2).bind fun t284 => (some (t284 == 8)))) else (some false)))) else (some false)) = some r := H
  have A2 := Aside0.mk A20
  clear A20
  by_cases c3 : (t268 == t273 && (t269 == t274)) = true
  · rw [if_pos c3] at H
    have c3b0 : (t268 == t273 && (t269 == t274)) = true := c3
    (try (have c3b1 : decide (t268 = t273 && (t269 == t274)) = true := by simpa using c3))
    (try (have c3b2 : (t268 == t273 && (t269 == t274)) = true := by simpa using c3))
    clear c3
    replace H := Option.bind_eq_some_iff.mp H
    obtain ⟨⟨t275, t276⟩, A40, H⟩ := H
    replace H : ((set_Of.f k (([41] : List Int))).bind fun bt280 => (if (t275 == bt280.1 && (t276 == bt280.2)) = true then ((step_Of.f k 8 40).bind fun bt282 => ((set_Set_Count.f bt282.1 bt282.2).bind fun t284 => (some (t284 == 8)))) else (some false))) = some r := H
    have A4 := Aside0.mk A40
    clear A40
    obtain ⟨y277, hy277⟩ : ∃ y_ : List Int, y_ = (([41] : List Int)) := ⟨_, rfl⟩
    replace H : ((set_Of.f k y277).bind fun bt280 => (if (t275 == bt280.1 && (t276 == bt280.2)) = true then ((step_Of.f k 8 40).bind fun bt282 => ((set_Set_Count.f bt282.1 bt282.2).bind fun t284 => (some (t284 == 8)))) else (some false))) = some r := by first | (rw [hy277]; with_reducible exact H) | (have H2_ := (Option.bind_some _ _).symm.trans H; rw [hy277]; with_reducible exact H2_) | (have H2_ := (Option.bind_some _ _).symm.trans H; with_reducible exact H2_) | with_reducible exact H | (rw [hy277]; exact H) | exact H
    have Ny277 := Aside0.mk hy277
    clear hy277
    replace H := Option.bind_eq_some_iff.mp H
    obtain ⟨⟨t280, t281⟩, A50, H⟩ := H
    replace H : (if (t275 == t280 && (t276 == t281)) = true then ((step_Of.f k 8 40).bind fun bt282 => ((set_Set_Count.f bt282.1 bt282.2).bind fun t284 => (some (t284 == 8)))) else (some false)) = some r := H
    have A5 := Aside0.mk A50
    clear A50
    by_cases c6 : (t275 == t280 && (t276 == t281)) = true
    · rw [if_pos c6] at H
      have c6b0 : (t275 == t280 && (t276 == t281)) = true := c6
      (try (have c6b1 : decide (t275 = t280 && (t276 == t281)) = true := by simpa using c6))
      (try (have c6b2 : (t275 == t280 && (t276 == t281)) = true := by simpa using c6))
      clear c6
      replace H := Option.bind_eq_some_iff.mp H
      obtain ⟨⟨t282, t283⟩, A70, H⟩ := H
      replace H : ((set_Set_Count.f t282 t283).bind fun t284 => (some (t284 == 8))) = some r := H
      have A7 := Aside0.mk A70
      clear A70
      replace H := Option.bind_eq_some_iff.mp H
      obtain ⟨t284, A80, H⟩ := H
      replace H : (some (t284 == 8)) = some r := H
      have A8 := Aside0.mk A80
      clear A80
      obtain rfl := Option.some.inj H
      go_enter Tryd.func23, Tryd.ntmps23
      go_wp2_with (first | ((with_reducible refine gate_callee (f := 24) rfl ?_); refine goesL_ (some 1) rfl rfl Tryd.func24 (by kernel_rfl) rfl #[.int .i8 1, .int .i64 40] rfl (by (try simp only [List.map_toArray, List.map_cons, List.map_nil]); first | done | rfl | (simp only [List.length_drop, List.length_take]; rfl)) ?_; (with_reducible refine (step_Of.calls k 1 40 t268 t269 _ A1.out).mono ?_); rintro e w9 ⟨rfl, hb⟩; refine ⟨_, rfl, ?_⟩; have n0_ := Aside0.mk (below_step (by repeat (first | (with_reducible first | exact HB.out | apply below_alloc | apply pw_below_drewN | apply below_drew1) | exact HB.out)) hb); clear HB; have HB := n0_; clear n0_; (try clear hb); (try clear hb2); (try clear hk); (try clear hi)) | ((with_reducible refine gate_dst (N := 2) rfl ?_); (try (refine gate_guard (by rfl) ?_; dsimp only)); refine Kd.R_lit (Kd.int .i64) _ 3 ?hg (N := 2) ?hd (xs := ([39] : List Int)) (inner := [.int .i64 39]) (ok := fun _ => True) (okp := fun _ => True) ?hr ?hp (fun _ hk => hk) trivial (Below.refl _ _) (Nat.le_refl _) (by simp) ?_; (case hd => rfl); (case hg => rfl); (case hr => first | (go_simp; done) | (go_simp; rfl)); (case hp => exact (Reps.one (show Kd.M (Kd.int .i64) _ _ _ 39 [.int .i64 39] from rfl) (Reps.none _ _))); intro v271 w10 ho11 hb hg_ hnew_; clear hg_ hnew_; (first | rw [← Ny270.out] at ho11 | (simp only [Int.reduceToNat] at ho11; rw [← Ny270.out] at ho11)); have n0_ := Aside0.mk (Kd.R_lower ho11 (below_size (by repeat (first | (with_reducible first | exact HB.out | apply below_alloc | apply pw_below_drewN | apply below_drew1) | exact HB.out)))); have n1_ := Aside0.mk (below_step (by repeat (first | (with_reducible first | exact HB.out | apply below_alloc | apply pw_below_drewN | apply below_drew1) | exact HB.out)) hb); clear HB; have HO272 := n0_; have HB := n1_; clear n0_ n1_; clear hb ho11; obtain ⟨Ao12, co12, eo12⟩ := Kd.R_slice HO272.out; subst eo12) | ((with_reducible refine gate_callee (f := 8) rfl ?_); refine goesL_ (some 3) rfl rfl Tryd.func8 (by kernel_rfl) rfl #[.slice Ao12 y270.length co12] rfl (by (try simp only [List.map_toArray, List.map_cons, List.map_nil]); first | done | rfl | (simp only [List.length_drop, List.length_take]; rfl)) ?_; (with_reducible refine (set_Of.calls k _ _ y270 t273 t274 _ ?side1 ?side2 A2.out).mono ?_); (case side1 => repeat (first | exact (Kd.R_reads' HO272.out).2.2 | (with_reducible refine Kd.C_alloc ?_ _) | (with_reducible refine Kd.C_drewN ?_ _) | (with_reducible refine Kd.C_drew ?_))); (case side2 => exact (Kd.R_reads' HO272.out).2.1); rintro e w13 ⟨rfl, hb⟩; refine ⟨_, rfl, ?_⟩; have n0_ := Aside0.mk (Kd.R_below (by (with_reducible repeat (first | apply Kd.R_alloc | apply Kd.R_drewN | apply Kd.R_drew)); exact HO272.out) hb); have n1_ := Aside0.mk (below_step (by repeat (first | (with_reducible first | exact HB.out | apply below_alloc | apply pw_below_drewN | apply below_drew1) | exact HB.out)) hb); clear HO272; clear HB; have HO272 := n0_; have HB := n1_; clear n0_ n1_; (try clear hb); (try clear hb2); (try clear hk); (try clear hi)) | (go_at_call 24; (with_reducible refine (step_Of.calls k 17 40 t275 t276 _ A4.out).mono ?_); rintro e w14 ⟨rfl, hb⟩; have n0_ := Aside0.mk (Kd.R_below (by (with_reducible repeat (first | apply Kd.R_alloc | apply Kd.R_drewN | apply Kd.R_drew)); exact HO272.out) hb); have n1_ := Aside0.mk (below_step (by repeat (first | (with_reducible first | exact HB.out | apply below_alloc | apply pw_below_drewN | apply below_drew1) | exact HB.out)) hb); clear HO272; clear HB; have HO272 := n0_; have HB := n1_; clear n0_ n1_; (try clear hb); (try clear hb2); (try clear hk); (try clear hi)) | ((with_reducible refine gate_dst (N := 7) rfl ?_); (try (refine gate_guard (by rfl) ?_; dsimp only)); refine Kd.R_lit (Kd.int .i64) _ 3 ?hg (N := 7) ?hd (xs := ([41] : List Int)) (inner := [.int .i64 41]) (ok := fun _ => True) (okp := fun _ => True) ?hr ?hp (fun _ hk => hk) trivial (Below.refl _ _) (Nat.le_refl _) (by simp) ?_; (case hd => rfl); (case hg => rfl); (case hr => first | (go_simp; done) | (go_simp; rfl)); (case hp => exact (Reps.one (show Kd.M (Kd.int .i64) _ _ _ 41 [.int .i64 41] from rfl) (Reps.none _ _))); intro v278 w15 ho16 hb hg_ hnew_; clear hg_ hnew_; (first | rw [← Ny277.out] at ho16 | (simp only [Int.reduceToNat] at ho16; rw [← Ny277.out] at ho16)); have n0_ := Aside0.mk (Kd.R_elder' (by (with_reducible repeat (first | apply Kd.R_alloc | apply Kd.R_drewN | apply Kd.R_drew)); exact HO272.out) (Kd.R_base ho16) hb); have n1_ := Aside0.mk (Kd.R_lower (Kd.R_new' ho16 (Kd.R_lt (by (with_reducible repeat (first | apply Kd.R_alloc | apply Kd.R_drewN | apply Kd.R_drew)); exact HO272.out))) (below_size (by repeat (first | (with_reducible first | exact HB.out | apply below_alloc | apply pw_below_drewN | apply below_drew1) | exact HB.out)))); have n2_ := Aside0.mk (below_step (by repeat (first | (with_reducible first | exact HB.out | apply below_alloc | apply pw_below_drewN | apply below_drew1) | exact HB.out)) hb); clear HO272; clear HB; have HO272 := n0_; have HO279 := n1_; have HB := n2_; clear n0_ n1_ n2_; clear hb ho16; obtain ⟨Ao17, co17, eo17⟩ := Kd.R_slice HO279.out; subst eo17) | (go_at_call 8; (with_reducible refine (set_Of.calls k _ _ y277 t280 t281 _ ?side1 ?side2 A5.out).mono ?_); (case side1 => repeat (first | exact (Kd.R_reads' HO279.out).2.2 | (with_reducible refine Kd.C_alloc ?_ _) | (with_reducible refine Kd.C_drewN ?_ _) | (with_reducible refine Kd.C_drew ?_))); (case side2 => exact (Kd.R_reads' HO279.out).2.1); rintro e w18 ⟨rfl, hb⟩; have n0_ := Aside0.mk (Kd.R_below (by (with_reducible repeat (first | apply Kd.R_alloc | apply Kd.R_drewN | apply Kd.R_drew)); exact HO272.out) hb); have n1_ := Aside0.mk (Kd.R_below (by (with_reducible repeat (first | apply Kd.R_alloc | apply Kd.R_drewN | apply Kd.R_drew)); exact HO279.out) hb); have n2_ := Aside0.mk (below_step (by repeat (first | (with_reducible first | exact HB.out | apply below_alloc | apply pw_below_drewN | apply below_drew1) | exact HB.out)) hb); clear HO272; clear HO279; clear HB; have HO272 := n0_; have HO279 := n1_; have HB := n2_; clear n0_ n1_ n2_; (try clear hb); (try clear hb2); (try clear hk); (try clear hi)) | (go_at_call 24; (with_reducible refine (step_Of.calls k 8 40 t282 t283 _ A7.out).mono ?_); rintro e w19 ⟨rfl, hb⟩; have n0_ := Aside0.mk (Kd.R_below (by (with_reducible repeat (first | apply Kd.R_alloc | apply Kd.R_drewN | apply Kd.R_drew)); exact HO272.out) hb); have n1_ := Aside0.mk (Kd.R_below (by (with_reducible repeat (first | apply Kd.R_alloc | apply Kd.R_drewN | apply Kd.R_drew)); exact HO279.out) hb); have n2_ := Aside0.mk (below_step (by repeat (first | (with_reducible first | exact HB.out | apply below_alloc | apply pw_below_drewN | apply below_drew1) | exact HB.out)) hb); clear HO272; clear HO279; clear HB; have HO272 := n0_; have HO279 := n1_; have HB := n2_; clear n0_ n1_ n2_; (try clear hb); (try clear hb2); (try clear hk); (try clear hi)) | (go_at_call 18; (with_reducible refine (set_Set_Count.calls t282 t283 t284 _ A8.out).mono ?_); rintro e w20 ⟨rfl, hb⟩; have n0_ := Aside0.mk (Kd.R_below (by (with_reducible repeat (first | apply Kd.R_alloc | apply Kd.R_drewN | apply Kd.R_drew)); exact HO272.out) hb); have n1_ := Aside0.mk (Kd.R_below (by (with_reducible repeat (first | apply Kd.R_alloc | apply Kd.R_drewN | apply Kd.R_drew)); exact HO279.out) hb); have n2_ := Aside0.mk (below_step (by repeat (first | (with_reducible first | exact HB.out | apply below_alloc | apply pw_below_drewN | apply below_drew1) | exact HB.out)) hb); clear HO272; clear HO279; clear HB; have HO272 := n0_; have HO279 := n1_; have HB := n2_; clear n0_ n1_ n2_; (try clear hb); (try clear hb2); (try clear hk); (try clear hi)))
      go_ret
      exact ⟨by first | rfl | (simp [errW_none, errW_some] <;> rfl) | (simp [*, errW_none, errW_some] <;> rfl) | (simp [*, errW_none, errW_some]; generalize ByteArray.toList _ = q_; cases q_ <;> rfl), by repeat (first | (with_reducible first | exact HB.out | apply below_alloc | apply pw_below_drewN | apply below_drew1) | exact HB.out)⟩
    · rw [if_neg c6] at H
      have c6b0 : (t275 == t280 && (t276 == t281)) = false := by simpa using c6
      (try (have c6b1 : decide (t275 = t280 && (t276 == t281)) = false := by simpa using c6))
      (try (have c6b2 : (t275 == t280 && (t276 == t281)) = false := by simpa using c6))
      (try (have c6b3 : ¬ (t275 = t280 && (t276 == t281)) := by simpa using c6))
      clear c6
      obtain rfl := Option.some.inj H
      go_enter Tryd.func23, Tryd.ntmps23
      go_wp2_with (first | ((with_reducible refine gate_callee (f := 24) rfl ?_); refine goesL_ (some 1) rfl rfl Tryd.func24 (by kernel_rfl) rfl #[.int .i8 1, .int .i64 40] rfl (by (try simp only [List.map_toArray, List.map_cons, List.map_nil]); first | done | rfl | (simp only [List.length_drop, List.length_take]; rfl)) ?_; (with_reducible refine (step_Of.calls k 1 40 t268 t269 _ A1.out).mono ?_); rintro e w21 ⟨rfl, hb⟩; refine ⟨_, rfl, ?_⟩; have n0_ := Aside0.mk (below_step (by repeat (first | (with_reducible first | exact HB.out | apply below_alloc | apply pw_below_drewN | apply below_drew1) | exact HB.out)) hb); clear HB; have HB := n0_; clear n0_; (try clear hb); (try clear hb2); (try clear hk); (try clear hi)) | ((with_reducible refine gate_dst (N := 2) rfl ?_); (try (refine gate_guard (by rfl) ?_; dsimp only)); refine Kd.R_lit (Kd.int .i64) _ 3 ?hg (N := 2) ?hd (xs := ([39] : List Int)) (inner := [.int .i64 39]) (ok := fun _ => True) (okp := fun _ => True) ?hr ?hp (fun _ hk => hk) trivial (Below.refl _ _) (Nat.le_refl _) (by simp) ?_; (case hd => rfl); (case hg => rfl); (case hr => first | (go_simp; done) | (go_simp; rfl)); (case hp => exact (Reps.one (show Kd.M (Kd.int .i64) _ _ _ 39 [.int .i64 39] from rfl) (Reps.none _ _))); intro v271 w22 ho23 hb hg_ hnew_; clear hg_ hnew_; (first | rw [← Ny270.out] at ho23 | (simp only [Int.reduceToNat] at ho23; rw [← Ny270.out] at ho23)); have n0_ := Aside0.mk (Kd.R_lower ho23 (below_size (by repeat (first | (with_reducible first | exact HB.out | apply below_alloc | apply pw_below_drewN | apply below_drew1) | exact HB.out)))); have n1_ := Aside0.mk (below_step (by repeat (first | (with_reducible first | exact HB.out | apply below_alloc | apply pw_below_drewN | apply below_drew1) | exact HB.out)) hb); clear HB; have HO272 := n0_; have HB := n1_; clear n0_ n1_; clear hb ho23; obtain ⟨Ao24, co24, eo24⟩ := Kd.R_slice HO272.out; subst eo24) | ((with_reducible refine gate_callee (f := 8) rfl ?_); refine goesL_ (some 3) rfl rfl Tryd.func8 (by kernel_rfl) rfl #[.slice Ao24 y270.length co24] rfl (by (try simp only [List.map_toArray, List.map_cons, List.map_nil]); first | done | rfl | (simp only [List.length_drop, List.length_take]; rfl)) ?_; (with_reducible refine (set_Of.calls k _ _ y270 t273 t274 _ ?side1 ?side2 A2.out).mono ?_); (case side1 => repeat (first | exact (Kd.R_reads' HO272.out).2.2 | (with_reducible refine Kd.C_alloc ?_ _) | (with_reducible refine Kd.C_drewN ?_ _) | (with_reducible refine Kd.C_drew ?_))); (case side2 => exact (Kd.R_reads' HO272.out).2.1); rintro e w25 ⟨rfl, hb⟩; refine ⟨_, rfl, ?_⟩; have n0_ := Aside0.mk (Kd.R_below (by (with_reducible repeat (first | apply Kd.R_alloc | apply Kd.R_drewN | apply Kd.R_drew)); exact HO272.out) hb); have n1_ := Aside0.mk (below_step (by repeat (first | (with_reducible first | exact HB.out | apply below_alloc | apply pw_below_drewN | apply below_drew1) | exact HB.out)) hb); clear HO272; clear HB; have HO272 := n0_; have HB := n1_; clear n0_ n1_; (try clear hb); (try clear hb2); (try clear hk); (try clear hi)) | (go_at_call 24; (with_reducible refine (step_Of.calls k 17 40 t275 t276 _ A4.out).mono ?_); rintro e w26 ⟨rfl, hb⟩; have n0_ := Aside0.mk (Kd.R_below (by (with_reducible repeat (first | apply Kd.R_alloc | apply Kd.R_drewN | apply Kd.R_drew)); exact HO272.out) hb); have n1_ := Aside0.mk (below_step (by repeat (first | (with_reducible first | exact HB.out | apply below_alloc | apply pw_below_drewN | apply below_drew1) | exact HB.out)) hb); clear HO272; clear HB; have HO272 := n0_; have HB := n1_; clear n0_ n1_; (try clear hb); (try clear hb2); (try clear hk); (try clear hi)) | ((with_reducible refine gate_dst (N := 7) rfl ?_); (try (refine gate_guard (by rfl) ?_; dsimp only)); refine Kd.R_lit (Kd.int .i64) _ 3 ?hg (N := 7) ?hd (xs := ([41] : List Int)) (inner := [.int .i64 41]) (ok := fun _ => True) (okp := fun _ => True) ?hr ?hp (fun _ hk => hk) trivial (Below.refl _ _) (Nat.le_refl _) (by simp) ?_; (case hd => rfl); (case hg => rfl); (case hr => first | (go_simp; done) | (go_simp; rfl)); (case hp => exact (Reps.one (show Kd.M (Kd.int .i64) _ _ _ 41 [.int .i64 41] from rfl) (Reps.none _ _))); intro v278 w27 ho28 hb hg_ hnew_; clear hg_ hnew_; (first | rw [← Ny277.out] at ho28 | (simp only [Int.reduceToNat] at ho28; rw [← Ny277.out] at ho28)); have n0_ := Aside0.mk (Kd.R_elder' (by (with_reducible repeat (first | apply Kd.R_alloc | apply Kd.R_drewN | apply Kd.R_drew)); exact HO272.out) (Kd.R_base ho28) hb); have n1_ := Aside0.mk (Kd.R_lower (Kd.R_new' ho28 (Kd.R_lt (by (with_reducible repeat (first | apply Kd.R_alloc | apply Kd.R_drewN | apply Kd.R_drew)); exact HO272.out))) (below_size (by repeat (first | (with_reducible first | exact HB.out | apply below_alloc | apply pw_below_drewN | apply below_drew1) | exact HB.out)))); have n2_ := Aside0.mk (below_step (by repeat (first | (with_reducible first | exact HB.out | apply below_alloc | apply pw_below_drewN | apply below_drew1) | exact HB.out)) hb); clear HO272; clear HB; have HO272 := n0_; have HO279 := n1_; have HB := n2_; clear n0_ n1_ n2_; clear hb ho28; obtain ⟨Ao29, co29, eo29⟩ := Kd.R_slice HO279.out; subst eo29) | (go_at_call 8; (with_reducible refine (set_Of.calls k _ _ y277 t280 t281 _ ?side1 ?side2 A5.out).mono ?_); (case side1 => repeat (first | exact (Kd.R_reads' HO279.out).2.2 | (with_reducible refine Kd.C_alloc ?_ _) | (with_reducible refine Kd.C_drewN ?_ _) | (with_reducible refine Kd.C_drew ?_))); (case side2 => exact (Kd.R_reads' HO279.out).2.1); rintro e w30 ⟨rfl, hb⟩; have n0_ := Aside0.mk (Kd.R_below (by (with_reducible repeat (first | apply Kd.R_alloc | apply Kd.R_drewN | apply Kd.R_drew)); exact HO272.out) hb); have n1_ := Aside0.mk (Kd.R_below (by (with_reducible repeat (first | apply Kd.R_alloc | apply Kd.R_drewN | apply Kd.R_drew)); exact HO279.out) hb); have n2_ := Aside0.mk (below_step (by repeat (first | (with_reducible first | exact HB.out | apply below_alloc | apply pw_below_drewN | apply below_drew1) | exact HB.out)) hb); clear HO272; clear HO279; clear HB; have HO272 := n0_; have HO279 := n1_; have HB := n2_; clear n0_ n1_ n2_; (try clear hb); (try clear hb2); (try clear hk); (try clear hi)))
      go_ret
      exact ⟨by first | rfl | (simp [errW_none, errW_some] <;> rfl) | (simp [*, errW_none, errW_some] <;> rfl) | (simp [*, errW_none, errW_some]; generalize ByteArray.toList _ = q_; cases q_ <;> rfl), by repeat (first | (with_reducible first | exact HB.out | apply below_alloc | apply pw_below_drewN | apply below_drew1) | exact HB.out)⟩
  · rw [if_neg c3] at H
    have c3b0 : (t268 == t273 && (t269 == t274)) = false := by simpa using c3
    (try (have c3b1 : decide (t268 = t273 && (t269 == t274)) = false := by simpa using c3))
    (try (have c3b2 : (t268 == t273 && (t269 == t274)) = false := by simpa using c3))
    (try (have c3b3 : ¬ (t268 = t273 && (t269 == t274)) := by simpa using c3))
    clear c3
    obtain rfl := Option.some.inj H
    go_enter Tryd.func23, Tryd.ntmps23
    go_wp2_with (first | ((with_reducible refine gate_callee (f := 24) rfl ?_); refine goesL_ (some 1) rfl rfl Tryd.func24 (by kernel_rfl) rfl #[.int .i8 1, .int .i64 40] rfl (by (try simp only [List.map_toArray, List.map_cons, List.map_nil]); first | done | rfl | (simp only [List.length_drop, List.length_take]; rfl)) ?_; (with_reducible refine (step_Of.calls k 1 40 t268 t269 _ A1.out).mono ?_); rintro e w31 ⟨rfl, hb⟩; refine ⟨_, rfl, ?_⟩; have n0_ := Aside0.mk (below_step (by repeat (first | (with_reducible first | exact HB.out | apply below_alloc | apply pw_below_drewN | apply below_drew1) | exact HB.out)) hb); clear HB; have HB := n0_; clear n0_; (try clear hb); (try clear hb2); (try clear hk); (try clear hi)) | ((with_reducible refine gate_dst (N := 2) rfl ?_); (try (refine gate_guard (by rfl) ?_; dsimp only)); refine Kd.R_lit (Kd.int .i64) _ 3 ?hg (N := 2) ?hd (xs := ([39] : List Int)) (inner := [.int .i64 39]) (ok := fun _ => True) (okp := fun _ => True) ?hr ?hp (fun _ hk => hk) trivial (Below.refl _ _) (Nat.le_refl _) (by simp) ?_; (case hd => rfl); (case hg => rfl); (case hr => first | (go_simp; done) | (go_simp; rfl)); (case hp => exact (Reps.one (show Kd.M (Kd.int .i64) _ _ _ 39 [.int .i64 39] from rfl) (Reps.none _ _))); intro v271 w32 ho33 hb hg_ hnew_; clear hg_ hnew_; (first | rw [← Ny270.out] at ho33 | (simp only [Int.reduceToNat] at ho33; rw [← Ny270.out] at ho33)); have n0_ := Aside0.mk (Kd.R_lower ho33 (below_size (by repeat (first | (with_reducible first | exact HB.out | apply below_alloc | apply pw_below_drewN | apply below_drew1) | exact HB.out)))); have n1_ := Aside0.mk (below_step (by repeat (first | (with_reducible first | exact HB.out | apply below_alloc | apply pw_below_drewN | apply below_drew1) | exact HB.out)) hb); clear HB; have HO272 := n0_; have HB := n1_; clear n0_ n1_; clear hb ho33; obtain ⟨Ao34, co34, eo34⟩ := Kd.R_slice HO272.out; subst eo34) | ((with_reducible refine gate_callee (f := 8) rfl ?_); refine goesL_ (some 3) rfl rfl Tryd.func8 (by kernel_rfl) rfl #[.slice Ao34 y270.length co34] rfl (by (try simp only [List.map_toArray, List.map_cons, List.map_nil]); first | done | rfl | (simp only [List.length_drop, List.length_take]; rfl)) ?_; (with_reducible refine (set_Of.calls k _ _ y270 t273 t274 _ ?side1 ?side2 A2.out).mono ?_); (case side1 => repeat (first | exact (Kd.R_reads' HO272.out).2.2 | (with_reducible refine Kd.C_alloc ?_ _) | (with_reducible refine Kd.C_drewN ?_ _) | (with_reducible refine Kd.C_drew ?_))); (case side2 => exact (Kd.R_reads' HO272.out).2.1); rintro e w35 ⟨rfl, hb⟩; refine ⟨_, rfl, ?_⟩; have n0_ := Aside0.mk (Kd.R_below (by (with_reducible repeat (first | apply Kd.R_alloc | apply Kd.R_drewN | apply Kd.R_drew)); exact HO272.out) hb); have n1_ := Aside0.mk (below_step (by repeat (first | (with_reducible first | exact HB.out | apply below_alloc | apply pw_below_drewN | apply below_drew1) | exact HB.out)) hb); clear HO272; clear HB; have HO272 := n0_; have HB := n1_; clear n0_ n1_; (try clear hb); (try clear hb2); (try clear hk); (try clear hi)))
    go_ret
    exact ⟨by first | rfl | (simp [errW_none, errW_some] <;> rfl) | (simp [*, errW_none, errW_some] <;> rfl) | (simp [*, errW_none, errW_some]; generalize ByteArray.toList _ = q_; cases q_ <;> rfl), by repeat (first | (with_reducible first | exact HB.out | apply below_alloc | apply pw_below_drewN | apply below_drew1) | exact HB.out)⟩

/-! ### set_Set_Squares: function 25 -/
mutual
def set_Set_Squares.l0 : Nat → List Int → Int → Int → Option (List Int)
  | 0, _, _, _ => none
  | k + 1, x3, x286000, x286001 => if x286000 = 0 then (set_Set_Squares.l1 k x3 x286000 x286001) else ((bits_TrailingZeros64.f x286000).bind fun t286 => (if x3.length < 17592186044416 then (set_Set_Squares.l0 k (x3 ++ [t286]) (Go.bits .and .u64 x286000 (IntKind.u64.wrap (x286000 - 1))) x286001) else (none)))
def set_Set_Squares.l1 : Nat → List Int → Int → Int → Option (List Int)
  | 0, _, _, _ => none
  | k + 1, x3, x286000, x286001 => if x286001 = 0 then (some x3) else ((bits_TrailingZeros64.f x286001).bind fun t290 => (if x3.length < 17592186044416 then (set_Set_Squares.l1 k (x3 ++ [wrap64 (63 + t290)]) x286000 (Go.bits .and .u64 x286001 (IntKind.u64.wrap (x286001 - 1)))) else (none)))
end
def set_Set_Squares.f (k : Nat) (a0_0 : Int) (a0_1 : Int) : Option (List Int) := set_Set_Squares.l0 k ([] : List Int) a0_0 a0_1
theorem set_Set_Squares.mono_l : ∀ k, (∀ y0 y1 y2, LeO (set_Set_Squares.l0 k y0 y1 y2) (set_Set_Squares.l0 (k + 1) y0 y1 y2)) ∧ (∀ y0 y1 y2, LeO (set_Set_Squares.l1 k y0 y1 y2) (set_Set_Squares.l1 (k + 1) y0 y1 y2))
  | 0 => ⟨fun _ _ _ r h => by simp [set_Set_Squares.l0] at h, fun _ _ _ r h => by simp [set_Set_Squares.l1] at h⟩
  | k + 1 => by
    obtain ⟨ih0, ih1⟩ := set_Set_Squares.mono_l k
    refine ⟨?_, ?_⟩
    · intro y0 y1 y2
      unfold set_Set_Squares.l0
      repeat' first
      | (with_reducible exact ih0 _ _ _)
      | (with_reducible exact ih1 _ _ _)
      | (with_reducible exact LeO.refl _)
      | (with_reducible exact LeO.none _)
      | (with_reducible refine LeO.ite ?_ ?_)
      | (with_reducible refine LeO.bind ?_ (fun _ => ?_))
      | exact ih0 _ _ _
      | exact ih1 _ _ _
      | exact LeO.none _
      | refine LeO.ite ?_ ?_
      | refine LeO.bind ?_ (fun _ => ?_)
    · intro y0 y1 y2
      unfold set_Set_Squares.l1
      repeat' first
      | (with_reducible exact ih0 _ _ _)
      | (with_reducible exact ih1 _ _ _)
      | (with_reducible exact LeO.refl _)
      | (with_reducible exact LeO.none _)
      | (with_reducible refine LeO.ite ?_ ?_)
      | (with_reducible refine LeO.bind ?_ (fun _ => ?_))
      | exact ih0 _ _ _
      | exact ih1 _ _ _
      | exact LeO.none _
      | refine LeO.ite ?_ ?_
      | refine LeO.bind ?_ (fun _ => ?_)
theorem set_Set_Squares.mono : ∀ a0 a1 k, LeO (set_Set_Squares.f k a0 a1) (set_Set_Squares.f (k + 1) a0 a1) := by
  intro a0 a1 k
  obtain ⟨ih0, ih1⟩ := set_Set_Squares.mono_l k
  unfold set_Set_Squares.f
  repeat' first
      | (with_reducible exact ih0 _ _ _)
      | (with_reducible exact ih1 _ _ _)
      | (with_reducible exact LeO.refl _)
      | (with_reducible exact LeO.none _)
      | (with_reducible refine LeO.ite ?_ ?_)
      | (with_reducible refine LeO.bind ?_ (fun _ => ?_))
      | exact ih0 _ _ _
      | exact ih1 _ _ _
      | exact LeO.none _
      | refine LeO.ite ?_ ?_
      | refine LeO.bind ?_ (fun _ => ?_)
set_option maxHeartbeats 8000000 in
set_option maxRecDepth 100000 in
theorem set_Set_Squares.calls (k : Nat) (a0_0 : Int) (a0_1 : Int) (r : List Int) (w : World) (hT : bits_TrailingZeros64.Tab w) (h : set_Set_Squares.f k a0_0 a0_1 = some r) :
    Calls Tryd.prog 25 #[.agg #[.int .u64 a0_0, .int .u64 a0_1]] w fun e w' => ∃ v0_ : Value, e = .returned (v0_) ∧ Kd.R (Kd.int .i64) 3 w' w.heap.size (fun _ => True) v0_ r ∧ Below w.heap.size w w' := by
  have hu26 := Tryd.underlying26
  have HB := Aside0.mk (Below.refl w.heap.size w)
  have H : (set_Set_Squares.l0 k ([] : List Int) a0_0 a0_1) = some r := h
  clear h
  have H' := Aside0.mk H
  clear H
  go_enter Tryd.func25, Tryd.ntmps25
  go_wp2_with (first | ((with_reducible refine gate_dst (N := 1) rfl ?_); refine box_event ?hg (N := 1) ?hd (cs := #[.int .u64 a0_0, .int .u64 a0_1]) (t := 26) ?hr ?_; (case hd => rfl); (case hg => rfl); (case hr => first | (go_simp; done) | (go_simp; rfl)); intro gb285 hg w2 hbox hb; have n0_ := Aside0.mk (below_step (by repeat (first | (with_reducible first | exact HB.out | apply below_alloc | apply pw_below_drewN | apply below_drew1) | exact HB.out)) hb); have n1_ := Aside0.mk (hbox); have n2_ := Aside0.mk ((by rw [hg]; exact (below_size (by repeat (first | (with_reducible first | exact HB.out | apply below_alloc | apply pw_below_drewN | apply below_drew1) | exact HB.out))) : w.heap.size ≤ gb285)); have n3_ := Aside0.mk ((by rw [hg]; exact (below_size (by repeat (first | (with_reducible first | exact HB.out | apply below_alloc | apply pw_below_drewN | apply below_drew1) | exact HB.out))) : w.heap.size ≤ gb285)); clear HB; have HB := n0_; have BK285 := n1_; have GW285 := n2_; have GE285 := n3_; clear n0_ n1_ n2_ n3_; clear hb hbox hg))
  go_loopg [3] k (fun kq v3 w' => ∃ (x3_1 : List Int) (x286000_1 : Int), Aside0 (set_Set_Squares.l0 kq x3_1 x286000_1 a0_1 = some r) ∧ Aside0 (kq ≤ k) ∧ Aside0 (Kd.R (Kd.int .i64) 3 w' w.heap.size (fun _ => True) v3 x3_1) ∧ Aside0 (w'.heap[gb285]? = some (.cells #[.int .u64 x286000_1, .int .u64 a0_1] 26 (0, 0))) ∧ Aside0 (Below w.heap.size w w'))
  case atStart => exact ⟨(([] : List Int)), (a0_0), H', ⟨Nat.le_refl _⟩, ⟨by first | exact Kd.R_nil _ _ _ _ _ | exact Kd.N_nil _ _ _ _ _ | exact Kd.V_nil _ _ _ _ _ | exact Kd.Q_nil _ _ _ _ _ | exact Kd.S_nil _ _ _ _ _⟩, ⟨by (with_reducible repeat (first | refine blk_drewN ?_ _ | refine blk_drew ?_ | refine blk_alloc ?_ _)); exact BK285.out⟩, ⟨by repeat (first | (with_reducible first | exact HB.out | apply below_alloc | apply pw_below_drewN | apply below_drew1 | refine below_set ?_ GE285.out) | exact HB.out)⟩⟩
  case round =>
    clear H'
    try clear c2
    try clear p2
    obtain ⟨x3_1, x286000_1, HA, HK1, HO_3, BK285, HB⟩ := hrel
    cases gk with
    | zero => exact absurd HA.out (by simp [set_Set_Squares.l0])
    | succ k1 =>
      have H := HA.out
      clear HA
      simp only [set_Set_Squares.l0] at H
      by_cases c3 : x286000_1 = 0
      · rw [if_pos c3] at H
        have c3b0 : (x286000_1 == 0) = true := beq_iff_eq.mpr c3
        have c3b1 : (x286000_1 != 0) = false := bne_eq_false_iff_eq.mpr c3
        clear c3
        have H' := Aside0.mk H
        clear H
        have hcz4_0 : wr.cell? ⟨gb285, 0, none⟩ = some (.int .u64 x286000_1) := (blk_cell BK285.out 0).trans rfl
        have hcz4_1 : wr.cell? ⟨gb285, 1, none⟩ = some (.int .u64 a0_1) := (blk_cell BK285.out 1).trans rfl
        have hfz4_0 := blk_frozen BK285.out 0
        have hfz4_1 := blk_frozen BK285.out 1
        go_wp2
        go_loopg [3] k1 (fun kq v3 w' => ∃ (x3_2 : List Int) (x286001_2 : Int), Aside0 (set_Set_Squares.l1 kq x3_2 x286000_1 x286001_2 = some r) ∧ Aside0 (kq ≤ k1) ∧ Aside0 (Kd.R (Kd.int .i64) 3 w' w.heap.size (fun _ => True) v3 x3_2) ∧ Aside0 (w'.heap[gb285]? = some (.cells #[.int .u64 x286000_1, .int .u64 x286001_2] 26 (0, 0))) ∧ Aside0 (Below w.heap.size w w'))
        case atStart => exact ⟨(x3_1), (a0_1), H', ⟨Nat.le_refl _⟩, ⟨by (with_reducible repeat (first | apply Kd.R_alloc | apply Kd.R_drewN | apply Kd.R_drew)); exact HO_3.out⟩, ⟨by (with_reducible repeat (first | refine blk_drewN ?_ _ | refine blk_drew ?_ | refine blk_alloc ?_ _)); exact BK285.out⟩, ⟨by repeat (first | (with_reducible first | exact HB.out | apply below_alloc | apply pw_below_drewN | apply below_drew1 | refine below_set ?_ GE285.out) | exact HB.out)⟩⟩
        case round =>
          clear H'
          try clear c2
          try clear p2
          try clear c3
          try clear c3b0
          try clear c3b1
          try clear hcz4_0
          try clear hcz4_1
          try clear hfz4_0
          try clear hfz4_1
          try clear p2
          obtain ⟨x3_2, x286001_2, HA, HK2, HO_3, BK285, HB⟩ := hrel
          cases gk with
          | zero => exact absurd HA.out (by simp [set_Set_Squares.l1])
          | succ k2 =>
            have H := HA.out
            clear HA
            simp only [set_Set_Squares.l1] at H
            by_cases c5 : x286001_2 = 0
            · rw [if_pos c5] at H
              have c5b0 : (x286001_2 == 0) = true := beq_iff_eq.mpr c5
              have c5b1 : (x286001_2 != 0) = false := bne_eq_false_iff_eq.mpr c5
              clear c5
              obtain rfl := Option.some.inj H
              have hcz6_0 : wr.cell? ⟨gb285, 0, none⟩ = some (.int .u64 x286000_1) := (blk_cell BK285.out 0).trans rfl
              have hcz6_1 : wr.cell? ⟨gb285, 1, none⟩ = some (.int .u64 x286001_2) := (blk_cell BK285.out 1).trans rfl
              have hfz6_0 := blk_frozen BK285.out 0
              have hfz6_1 := blk_frozen BK285.out 1
              go_wp2
              go_ret
              exact ⟨_, by first | rfl | (simp [errW_none, errW_some] <;> rfl) | (simp [*, errW_none, errW_some] <;> rfl), by (with_reducible repeat (first | apply Kd.R_alloc | apply Kd.R_drewN | apply Kd.R_drew)); exact HO_3.out, by repeat (first | (with_reducible first | exact HB.out | apply below_alloc | apply pw_below_drewN | apply below_drew1 | refine below_set ?_ GE285.out) | exact HB.out)⟩
            · rw [if_neg c5] at H
              have c5b0 : (x286001_2 == 0) = false := beq_eq_false_iff_ne.mpr c5
              have c5b1 : (x286001_2 != 0) = true := bne_iff_ne.mpr c5
              replace H := Option.bind_eq_some_iff.mp H
              obtain ⟨t290, A70, H⟩ := H
              replace H : (if x3_2.length < 17592186044416 then (set_Set_Squares.l1 k2 (x3_2 ++ [wrap64 (63 + t290)]) x286000_1 (Go.bits .and .u64 x286001_2 (IntKind.u64.wrap (x286001_2 - 1)))) else (none)) = some r := H
              have A7 := Aside0.mk A70
              clear A70
              by_cases c8 : x3_2.length < 17592186044416
              · rw [if_pos c8] at H
                have LMc8 := Aside0.mk c8
                clear c8
                obtain ⟨y291, hy291⟩ : ∃ y_ : List Int, y_ = (x3_2 ++ [wrap64 (63 + t290)]) := ⟨_, rfl⟩
                replace H : (set_Set_Squares.l1 k2 y291 x286000_1 (Go.bits .and .u64 x286001_2 (IntKind.u64.wrap (x286001_2 - 1)))) = some r := by first | (rw [hy291]; with_reducible exact H) | (have H2_ := (Option.bind_some _ _).symm.trans H; rw [hy291]; with_reducible exact H2_) | (have H2_ := (Option.bind_some _ _).symm.trans H; with_reducible exact H2_) | with_reducible exact H | (rw [hy291]; exact H) | exact H
                have Ny291 := Aside0.mk hy291
                clear hy291
                have H' := Aside0.mk H
                clear H
                have hcz9_0 : wr.cell? ⟨gb285, 0, none⟩ = some (.int .u64 x286000_1) := (blk_cell BK285.out 0).trans rfl
                have hcz9_1 : wr.cell? ⟨gb285, 1, none⟩ = some (.int .u64 x286001_2) := (blk_cell BK285.out 1).trans rfl
                have hfz9_0 := blk_frozen BK285.out 0
                have hfz9_1 := blk_frozen BK285.out 1
                go_wp2_with (first | ((with_reducible refine gate_callee (f := 38) rfl ?_); refine goesL_ (some 33) rfl rfl Tryd.func38 (by kernel_rfl) rfl #[.int .u64 x286001_2] rfl (by (try simp only [List.map_toArray, List.map_cons, List.map_nil]); first | done | rfl | (simp only [List.length_drop, List.length_take]; rfl)) ?_; (with_reducible refine (bits_TrailingZeros64.calls x286001_2 t290 _ (by exact hT.below (by repeat (first | (with_reducible first | exact HB.out | apply below_alloc | apply pw_below_drewN | apply below_drew1) | exact HB.out))) A7.out).mono ?_); rintro e w' ⟨rfl, ⟨nd, rfl⟩⟩; refine ⟨_, rfl, ?_⟩; (try (rw [drewN_self wr]; generalize hq_ : World.drewN wr _ = wr; have n0_ : Aside0 (Kd.R (Kd.int .i64) 3 wr w.heap.size (fun _ => True) u3 x3_2) := ⟨by rw [← hq_]; exact (by (with_reducible repeat (first | apply Kd.R_alloc | apply Kd.R_drewN | apply Kd.R_drew)); exact HO_3.out)⟩; have n1_ : Aside0 (wr.heap[gb285]? = some (.cells #[.int .u64 x286000_1, .int .u64 x286001_2] 26 (0, 0))) := ⟨by rw [← hq_]; exact (by (with_reducible repeat (first | refine blk_drewN ?_ _ | refine blk_drew ?_ | refine blk_alloc ?_ _)); exact BK285.out)⟩; have n2_ : Aside0 (Below w.heap.size w wr) := ⟨by rw [← hq_]; exact (by repeat (first | (with_reducible first | exact HB.out | apply below_alloc | apply pw_below_drewN | apply below_drew1 | refine below_set ?_ GE285.out) | exact HB.out))⟩; clear HO_3 BK285 HB hq_; have HO_3 := n0_; have BK285 := n1_; have HB := n2_; clear n0_ n1_ n2_))) | ((with_reducible refine gate_builtin (b := .append) (xs := #[.tmp 30, .tmp 35]) rfl ?_); at_builtin; refine Kd.R_append (Kd.int .i64) (w0 := w) w.heap.size rfl (.tmp 30) (.tmp 35) 22 3 (.int .i64 0) 8 rfl Tryd.underlying22 info3 rfl (by decide) (by omega) u3 x3_2 (wrap64 (63 + t290)) [.int .i64 (wrap64 (63 + t290))] (fun _ => True) (fun _ => False) rfl rfl ?aP (fun _ hk => hk.elim) ?aF ?aO ?aB ?aS ?aL ?_; (case aP => exact rfl); (case aB => exact (by repeat (first | (with_reducible first | exact HB.out | apply below_alloc | apply pw_below_drewN | apply below_drew1 | refine below_set ?_ GE285.out) | exact HB.out))); (case aF => exact (fun _ _ => trivial)); (case aO => exact (by (with_reducible repeat (first | apply Kd.R_alloc | apply Kd.R_drewN | apply Kd.R_drew)); exact HO_3.out)); (case aS => exact (below_size (by repeat (first | (with_reducible first | exact HB.out | apply below_alloc | apply pw_below_drewN | apply below_drew1 | refine below_set ?_ GE285.out) | exact HB.out)))); (case aL => have := LMc8.out; omega); intro v292 w10 ho hb hg hat; rw [← Ny291.out] at ho; have n0_ := Aside0.mk (blk_grown (g := gb285) (o := .cells #[.int .u64 x286000_1, .int .u64 x286001_2] 26 (0, 0)) (by (with_reducible repeat (first | refine blk_drewN ?_ _ | refine blk_drew ?_ | refine blk_alloc ?_ _)); exact BK285.out) hg (Kd.R_ne HO_3.out BK285.out (by decide))); have n1_ := Aside0.mk (hb); have n2_ := Aside0.mk (ho); clear BK285; clear HB; clear HO_3; have BK285 := n0_; have HB := n1_; have HO293 := n2_; clear n0_ n1_ n2_; clear ho hb hg hat; have hcz11_0 : w10.cell? ⟨gb285, 0, none⟩ = some (.int .u64 x286000_1) := (blk_cell BK285.out 0).trans rfl; have hcz11_1 : w10.cell? ⟨gb285, 1, none⟩ = some (.int .u64 x286001_2) := (blk_cell BK285.out 1).trans rfl; have hfz11_0 := blk_frozen BK285.out 0; have hfz11_1 := blk_frozen BK285.out 1))
                go_roundg k2
                case measure => have := HK1.out; have := HK2.out; omega
                case rel => exact ⟨(y291), (Go.bits .and .u64 x286001_2 (IntKind.u64.wrap (x286001_2 - 1))), H', ⟨by have := HK1.out; have := HK2.out; omega⟩, ⟨by (with_reducible repeat (first | apply Kd.R_alloc | apply Kd.R_drewN | apply Kd.R_drew)); exact Kd.R_mono (Kd.R_far (p := ⟨gb285, 1, none⟩) (Kd.R_types HO293.out BK285.out (by decide)) (fun _ hk => hk.2) (.int .u64 (Go.bits .and .u64 x286001_2 (IntKind.u64.wrap (x286001_2 - 1))))) (fun _ hk => trivial)⟩, ⟨by (with_reducible repeat (first | refine blk_drewN ?_ _ | refine blk_drew ?_ | refine blk_alloc ?_ _)); refine blk_put (cs := #[.int .u64 x286000_1, .int .u64 x286001_2]) ?_ 1 _ (by first | rfl | (simp [*]; done)); (with_reducible repeat (first | refine blk_drewN ?_ _ | refine blk_drew ?_ | refine blk_alloc ?_ _)); exact BK285.out⟩, ⟨by repeat (first | (with_reducible first | exact HB.out | apply below_alloc | apply pw_below_drewN | apply below_drew1 | refine below_set ?_ GE285.out) | exact HB.out)⟩⟩
              · rw [if_neg c8] at H
                exact absurd H (by simp)
      · rw [if_neg c3] at H
        have c3b0 : (x286000_1 == 0) = false := beq_eq_false_iff_ne.mpr c3
        have c3b1 : (x286000_1 != 0) = true := bne_iff_ne.mpr c3
        replace H := Option.bind_eq_some_iff.mp H
        obtain ⟨t286, A120, H⟩ := H
        replace H : (if x3_1.length < 17592186044416 then (set_Set_Squares.l0 k1 (x3_1 ++ [t286]) (Go.bits .and .u64 x286000_1 (IntKind.u64.wrap (x286000_1 - 1))) a0_1) else (none)) = some r := H
        have A12 := Aside0.mk A120
        clear A120
        by_cases c13 : x3_1.length < 17592186044416
        · rw [if_pos c13] at H
          have LMc13 := Aside0.mk c13
          clear c13
          obtain ⟨y287, hy287⟩ : ∃ y_ : List Int, y_ = (x3_1 ++ [t286]) := ⟨_, rfl⟩
          replace H : (set_Set_Squares.l0 k1 y287 (Go.bits .and .u64 x286000_1 (IntKind.u64.wrap (x286000_1 - 1))) a0_1) = some r := by first | (rw [hy287]; with_reducible exact H) | (have H2_ := (Option.bind_some _ _).symm.trans H; rw [hy287]; with_reducible exact H2_) | (have H2_ := (Option.bind_some _ _).symm.trans H; with_reducible exact H2_) | with_reducible exact H | (rw [hy287]; exact H) | exact H
          have Ny287 := Aside0.mk hy287
          clear hy287
          have H' := Aside0.mk H
          clear H
          have hcz14_0 : wr.cell? ⟨gb285, 0, none⟩ = some (.int .u64 x286000_1) := (blk_cell BK285.out 0).trans rfl
          have hcz14_1 : wr.cell? ⟨gb285, 1, none⟩ = some (.int .u64 a0_1) := (blk_cell BK285.out 1).trans rfl
          have hfz14_0 := blk_frozen BK285.out 0
          have hfz14_1 := blk_frozen BK285.out 1
          go_wp2_with (first | ((with_reducible refine gate_callee (f := 38) rfl ?_); refine goesL_ (some 17) rfl rfl Tryd.func38 (by kernel_rfl) rfl #[.int .u64 x286000_1] rfl (by (try simp only [List.map_toArray, List.map_cons, List.map_nil]); first | done | rfl | (simp only [List.length_drop, List.length_take]; rfl)) ?_; (with_reducible refine (bits_TrailingZeros64.calls x286000_1 t286 _ (by exact hT.below (by repeat (first | (with_reducible first | exact HB.out | apply below_alloc | apply pw_below_drewN | apply below_drew1) | exact HB.out))) A12.out).mono ?_); rintro e w' ⟨rfl, ⟨nd, rfl⟩⟩; refine ⟨_, rfl, ?_⟩; (try (rw [drewN_self wr]; generalize hq_ : World.drewN wr _ = wr; have n0_ : Aside0 (Kd.R (Kd.int .i64) 3 wr w.heap.size (fun _ => True) u3 x3_1) := ⟨by rw [← hq_]; exact (by (with_reducible repeat (first | apply Kd.R_alloc | apply Kd.R_drewN | apply Kd.R_drew)); exact HO_3.out)⟩; have n1_ : Aside0 (wr.heap[gb285]? = some (.cells #[.int .u64 x286000_1, .int .u64 a0_1] 26 (0, 0))) := ⟨by rw [← hq_]; exact (by (with_reducible repeat (first | refine blk_drewN ?_ _ | refine blk_drew ?_ | refine blk_alloc ?_ _)); exact BK285.out)⟩; have n2_ : Aside0 (Below w.heap.size w wr) := ⟨by rw [← hq_]; exact (by repeat (first | (with_reducible first | exact HB.out | apply below_alloc | apply pw_below_drewN | apply below_drew1 | refine below_set ?_ GE285.out) | exact HB.out))⟩; clear HO_3 BK285 HB hq_; have HO_3 := n0_; have BK285 := n1_; have HB := n2_; clear n0_ n1_ n2_))) | ((with_reducible refine gate_builtin (b := .append) (xs := #[.tmp 14, .tmp 18]) rfl ?_); at_builtin; refine Kd.R_append (Kd.int .i64) (w0 := w) w.heap.size rfl (.tmp 14) (.tmp 18) 22 3 (.int .i64 0) 8 rfl Tryd.underlying22 info3 rfl (by decide) (by omega) u3 x3_1 t286 [.int .i64 t286] (fun _ => True) (fun _ => False) rfl rfl ?aP (fun _ hk => hk.elim) ?aF ?aO ?aB ?aS ?aL ?_; (case aP => exact rfl); (case aB => exact (by repeat (first | (with_reducible first | exact HB.out | apply below_alloc | apply pw_below_drewN | apply below_drew1 | refine below_set ?_ GE285.out) | exact HB.out))); (case aF => exact (fun _ _ => trivial)); (case aO => exact (by (with_reducible repeat (first | apply Kd.R_alloc | apply Kd.R_drewN | apply Kd.R_drew)); exact HO_3.out)); (case aS => exact (below_size (by repeat (first | (with_reducible first | exact HB.out | apply below_alloc | apply pw_below_drewN | apply below_drew1 | refine below_set ?_ GE285.out) | exact HB.out)))); (case aL => have := LMc13.out; omega); intro v288 w15 ho hb hg hat; rw [← Ny287.out] at ho; have n0_ := Aside0.mk (blk_grown (g := gb285) (o := .cells #[.int .u64 x286000_1, .int .u64 a0_1] 26 (0, 0)) (by (with_reducible repeat (first | refine blk_drewN ?_ _ | refine blk_drew ?_ | refine blk_alloc ?_ _)); exact BK285.out) hg (Kd.R_ne HO_3.out BK285.out (by decide))); have n1_ := Aside0.mk (hb); have n2_ := Aside0.mk (ho); clear BK285; clear HB; clear HO_3; have BK285 := n0_; have HB := n1_; have HO289 := n2_; clear n0_ n1_ n2_; clear ho hb hg hat; have hcz16_0 : w15.cell? ⟨gb285, 0, none⟩ = some (.int .u64 x286000_1) := (blk_cell BK285.out 0).trans rfl; have hcz16_1 : w15.cell? ⟨gb285, 1, none⟩ = some (.int .u64 a0_1) := (blk_cell BK285.out 1).trans rfl; have hfz16_0 := blk_frozen BK285.out 0; have hfz16_1 := blk_frozen BK285.out 1))
          go_roundg k1
          case measure => have := HK1.out; omega
          case rel => exact ⟨(y287), (Go.bits .and .u64 x286000_1 (IntKind.u64.wrap (x286000_1 - 1))), H', ⟨by have := HK1.out; omega⟩, ⟨by (with_reducible repeat (first | apply Kd.R_alloc | apply Kd.R_drewN | apply Kd.R_drew)); exact Kd.R_mono (Kd.R_far (p := ⟨gb285, 0, none⟩) (Kd.R_types HO289.out BK285.out (by decide)) (fun _ hk => hk.2) (.int .u64 (Go.bits .and .u64 x286000_1 (IntKind.u64.wrap (x286000_1 - 1))))) (fun _ hk => trivial)⟩, ⟨by (with_reducible repeat (first | refine blk_drewN ?_ _ | refine blk_drew ?_ | refine blk_alloc ?_ _)); refine blk_put (cs := #[.int .u64 x286000_1, .int .u64 a0_1]) ?_ 0 _ (by first | rfl | (simp [*]; done)); (with_reducible repeat (first | refine blk_drewN ?_ _ | refine blk_drew ?_ | refine blk_alloc ?_ _)); exact BK285.out⟩, ⟨by repeat (first | (with_reducible first | exact HB.out | apply below_alloc | apply pw_below_drewN | apply below_drew1 | refine below_set ?_ GE285.out) | exact HB.out)⟩⟩
        · rw [if_neg c13] at H
          exact absurd H (by simp)

end Go.Proofs.YtmoeodcmfjnihaaDoor.Pa
