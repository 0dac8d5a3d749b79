-- Printed by a program of this session: the kit's printer, with contracts of this session's own among its functions.
import Derived.Test.YtmoeodcmfjnihabPax0
import Derived.Test.YtmoeodcmfjnihabPax1
import Derived.Test.YtmoeodcmfjnihabPax2
import Derived.Test.YtmoeodcmfjnihabPax4
namespace Go.Proofs.Ytmoeodcmfjnihab.Pa
open Go.RowKit Go.Proofs.YtmoeodcmfjnihabW.PrintWords Go.Proofs.YtmoeodcmfjnihabW.PrintLast Go.Proofs.YtmoeodcmfjnihabW.PrintMore
attribute [local go_sem] max2_int min2_int max_two min_two max_three min_three max_four min_four   -- for this text's walks alone
set_option linter.unusedVariables false
set_option linter.unusedSimpArgs false

/-! ### kakugyolaw17_values: function 10 -/
def kakugyolaw17_values.f : Option Bool := some true
set_option maxRecDepth 100000 in
set_option maxHeartbeats 8000000 in
theorem kakugyolaw17_values.calls (r : Bool) (w : World) (h : kakugyolaw17_values.f = some r) :
    Calls Try.prog 10 #[] w fun e w' => e = .returned (.bool r) ∧ Below w.heap.size w w' := by
  obtain rfl := Option.some.inj h; clear h
  have hz := board_Start.zero
  have hll : board_Start.startL.length = 98 := by decide +kernel
  have e0 : value_Of.f board_Start.startL = some 0 := by decide +kernel
  have e1 : value_Of.f (board_Start.startL.set 88 1) = some 1045 := by decide +kernel
  have e4 : value_Square.f 40 = some 4 := by decide +kernel
  have e5 : value_Square.f 0 = some 0 := by decide +kernel
  have E0 := Aside0.mk e0
  have E1 := Aside0.mk e1
  have E4 := Aside0.mk e4
  have E5 := Aside0.mk e5
  have HZ : Aside0 ((value_Of.pv board_Start.zl).size = 98) := ⟨by rw [value_Of.pv_size, board_Start.zl_len]⟩
  clear e0 e1 e4 e5
  have KB := Aside0.mk (Below.refl w.heap.size w)
  go_enter Try.func10, Try.ntmps10
  go_upto_region 2 with (first | (go_at_call 31; refine (board_Start.start_calls _).mono ?_; rintro e w5 ⟨rfl, hb⟩; have nB := Aside0.mk (below_step KB.out hb); clear KB hb; have KB := nB; clear nB) | ((with_reducible refine gate_store (t := 33) (p := 1) (v := .tmp 2) rfl ?_); refine value_Of.store rfl 33 (.tmp 1) (.tmp 2) rfl rfl rfl (blk_new _ _) HZ.out hll value_Of.infoP ?_; intro W3 s1 s2 s3; have K1 := Aside0.mk s1; have nB := Aside0.mk (s2 w.heap.size w KB.out.size (below_alloc KB.out _)); have HG := Aside0.mk KB.out.size; clear s1 s2 s3 KB; have KB := nB; clear nB))
  generalize w5.heap.size = g1 at *
  have c88 := (blk_cell K1.out 88).trans (value_Of.pv_get _ 88 (by omega))
  have f88 := blk_frozen K1.out 88
  go_upto_region 3 with (fail)
  clear c88 f88
  have B1 := (blk_set K1.out 88 (.int .i8 1)).trans (by rw [value_Of.pv_set])
  have BB := (KB.out).setCell (p := ⟨g1, 88, none⟩) HG.out (.int .i8 1)
  generalize W3.setCell ⟨g1, 88, none⟩ (.int .i8 1) = W4 at *
  clear K1 KB
  have K1 := Aside0.mk B1
  have KB := Aside0.mk BB
  clear B1 BB
  have hl2 : (board_Start.startL.set 88 1).length = 98 := by rw [List.length_set, hll]
  generalize hm : board_Start.startL.set 88 1 = m at *
  have HM := Aside0.mk hm
  clear hm
  generalize hn : board_Start.startL = n at *
  have HN := Aside0.mk hn
  clear hn
  go_wp2_with (first | (go_at_call 31; refine (board_Start.start_calls _).mono ?_; rw [HN.out]; rintro e w5 ⟨rfl, hb⟩; have n1 := Aside0.mk (blk_below K1.out hb); have nB := Aside0.mk (below_step KB.out hb); clear K1 KB hb; have K1 := n1; have KB := nB; clear n1 nB) | (go_at_call 19; (with_reducible refine (value_Of.of_calls n _ 0 hll E0.out).mono ?_); rintro e w5 ⟨rfl, hb⟩; have n1 := Aside0.mk (blk_below K1.out hb); have nB := Aside0.mk (below_step KB.out hb); clear K1 KB hb; have K1 := n1; have KB := nB; clear n1 nB) | (go_at_call 19; (with_reducible refine (value_Of.of_calls m _ 1045 hl2 E1.out).mono ?_); rintro e w5 ⟨rfl, hb⟩; have n1 := Aside0.mk (blk_below K1.out hb); have nB := Aside0.mk (below_step KB.out hb); clear K1 KB hb; have K1 := n1; have KB := nB; clear n1 nB) | (go_at_call 15; (with_reducible refine (value_Square.calls 40 _ _ E4.out).mono ?_); rintro e w5 ⟨rfl, hd⟩; have hb := hd.below; clear hd; have n1 := Aside0.mk (blk_below K1.out hb); have nB := Aside0.mk (below_step KB.out hb); clear K1 KB hb; have K1 := n1; have KB := nB; clear n1 nB) | (go_at_call 15; (with_reducible refine (value_Square.calls 0 _ _ E5.out).mono ?_); rintro e w5 ⟨rfl, hd⟩; have hb := hd.below; clear hd; have n1 := Aside0.mk (blk_below K1.out hb); have nB := Aside0.mk (below_step KB.out hb); clear K1 KB hb; have K1 := n1; have KB := nB; clear n1 nB) | ((with_reducible refine gate_dst (N := 10) rfl ?_); (try (refine gate_guard (by rfl) ?_; dsimp only)); refine value_Of.load rfl 33 (.tmp 1) rfl rfl K1.out Try.underlying33 rfl value_Of.infoP (by omega) ?_; rw [show (m.drop 0).take 98 = m by rw [List.drop_zero, List.take_of_length_le (by omega)]]))
  go_ret
  exact ⟨rfl, KB.out⟩

/-! ### kakugyoref17_Pieces: function 11 -/
def kakugyoref17_Pieces.f  : Option (List Int) := some (([0, 100, 300, 350, 500, 550, 850, 950, 0, 600, 550, 550, 550, 0, 1100, 1250] : List Int))
set_option maxHeartbeats 8000000 in
set_option maxRecDepth 100000 in
theorem kakugyoref17_Pieces.calls  (r : List Int) (w : World) (h : kakugyoref17_Pieces.f  = some r) :
    Calls Try.prog 11 #[] w fun e w' => ∃ v0_ : Value, e = .returned (v0_) ∧ Kd.R (Kd.int .i64) 3 w' w.heap.size (fun _ => True) v0_ r ∧ Below w.heap.size w w' := by
  have HB := Aside0.mk (Below.refl w.heap.size w)
  have H : (some (([0, 100, 300, 350, 500, 550, 850, 950, 0, 600, 550, 550, 550, 0, 1100, 1250] : List Int))) = some r := h
  clear h
  obtain ⟨y104, hy104⟩ : ∃ y_ : List Int, y_ = (([0, 100, 300, 350, 500, 550, 850, 950, 0, 600, 550, 550, 550, 0, 1100, 1250] : List Int)) := ⟨_, rfl⟩
  replace H : (some y104) = some r := by first | (rw [hy104]; with_reducible exact H) | (have H2_ := (Option.bind_some _ _).symm.trans H; rw [hy104]; with_reducible exact H2_) | (have H2_ := (Option.bind_some _ _).symm.trans H; with_reducible exact H2_) | with_reducible exact H | (rw [hy104]; exact H) | exact H
  have Ny104 := Aside0.mk hy104
  clear hy104
  obtain rfl := Option.some.inj H
  go_enter Try.func11, Try.ntmps11
  go_wp2_with (first | ((with_reducible refine gate_dst (N := 1) rfl ?_); refine Kd.R_lit (Kd.int .i64) _ 3 ?hg (N := 1) ?hd (xs := ([0, 100, 300, 350, 500, 550, 850, 950, 0, 600, 550, 550, 550, 0, 1100, 1250] : List Int)) (inner := [.int .i64 0, .int .i64 100, .int .i64 300, .int .i64 350, .int .i64 500, .int .i64 550, .int .i64 850, .int .i64 950, .int .i64 0, .int .i64 600, .int .i64 550, .int .i64 550, .int .i64 550, .int .i64 0, .int .i64 1100, .int .i64 1250]) (ok := fun _ => True) (okp := fun _ => True) ?hr ?hp (fun _ hk => hk) trivial (Below.refl _ _) (Nat.le_refl _) (by simp) ?_; (case hd => rfl); (case hg => rfl); (case hr => first | (go_simp; done) | (go_simp; rfl)); (case hp => exact (Reps.one (show Kd.M (Kd.int .i64) _ _ _ 0 [.int .i64 0] from rfl) (Reps.one (show Kd.M (Kd.int .i64) _ _ _ 100 [.int .i64 100] from rfl) (Reps.one (show Kd.M (Kd.int .i64) _ _ _ 300 [.int .i64 300] from rfl) (Reps.one (show Kd.M (Kd.int .i64) _ _ _ 350 [.int .i64 350] from rfl) (Reps.one (show Kd.M (Kd.int .i64) _ _ _ 500 [.int .i64 500] from rfl) (Reps.one (show Kd.M (Kd.int .i64) _ _ _ 550 [.int .i64 550] from rfl) (Reps.one (show Kd.M (Kd.int .i64) _ _ _ 850 [.int .i64 850] from rfl) (Reps.one (show Kd.M (Kd.int .i64) _ _ _ 950 [.int .i64 950] from rfl) (Reps.one (show Kd.M (Kd.int .i64) _ _ _ 0 [.int .i64 0] from rfl) (Reps.one (show Kd.M (Kd.int .i64) _ _ _ 600 [.int .i64 600] from rfl) (Reps.one (show Kd.M (Kd.int .i64) _ _ _ 550 [.int .i64 550] from rfl) (Reps.one (show Kd.M (Kd.int .i64) _ _ _ 550 [.int .i64 550] from rfl) (Reps.one (show Kd.M (Kd.int .i64) _ _ _ 550 [.int .i64 550] from rfl) (Reps.one (show Kd.M (Kd.int .i64) _ _ _ 0 [.int .i64 0] from rfl) (Reps.one (show Kd.M (Kd.int .i64) _ _ _ 1100 [.int .i64 1100] from rfl) (Reps.one (show Kd.M (Kd.int .i64) _ _ _ 1250 [.int .i64 1250] from rfl) (Reps.none _ _)))))))))))))))))); intro v105 w1 ho2 hb hg_ hnew_; clear hg_ hnew_; (first | rw [← Ny104.out] at ho2 | (simp only [Int.reduceToNat] at ho2; rw [← Ny104.out] at ho2)); have n0_ := Aside0.mk (Kd.R_lower ho2 (below_size (by repeat (first | (with_reducible first | exact HB.out | apply below_alloc | apply pw_below_drewN | apply below_drew1) | exact HB.out)))); have n1_ := Aside0.mk (below_step (by repeat (first | (with_reducible first | exact HB.out | apply below_alloc | apply pw_below_drewN | apply below_drew1) | exact HB.out)) hb); clear HB; have HO106 := n0_; have HB := n1_; clear n0_ n1_; clear hb ho2))
  go_ret
  exact ⟨_, by first | rfl | (simp [errW_none, errW_some] <;> rfl) | (simp [*, errW_none, errW_some] <;> rfl), by (with_reducible repeat (first | apply Kd.R_alloc | apply Kd.R_drewN | apply Kd.R_drew)); exact HO106.out, by repeat (first | (with_reducible first | exact HB.out | apply below_alloc | apply pw_below_drewN | apply below_drew1) | exact HB.out)⟩

/-! ### kakugyoref17_size: function 32 -/
def kakugyoref17_size.f (a0 : Int) : Option (Int) := if a0 < 0 then (some (wrap64 (-a0))) else (some a0)
set_option maxHeartbeats 8000000 in
set_option maxRecDepth 100000 in
theorem kakugyoref17_size.calls (a0 : Int) (r : Int) (w : World) (h : kakugyoref17_size.f a0 = some r) :
    Calls Try.prog 32 #[.int .i64 a0] w fun e w' => e = .returned (.int .i64 r) ∧ Drawn0 w w' := by
  have H : (if a0 < 0 then (some (wrap64 (-a0))) else (some a0)) = some r := h
  clear h
  by_cases c2 : a0 < 0
  · rw [if_pos c2] at H
    have c2b0 : decide (a0 < 0) = true := decide_eq_true c2
    clear c2
    obtain rfl := Option.some.inj H
    go_enter Try.func32, Try.ntmps32
    go_wp2
    go_ret
    exact ⟨by first | rfl | (simp; done) | (simp [*]; done), by repeat (first | exact Drawn0.refl _ | apply Drawn0.step)⟩
  · rw [if_neg c2] at H
    have c2b0 : decide (a0 < 0) = false := decide_eq_false c2
    clear c2
    obtain rfl := Option.some.inj H
    go_enter Try.func32, Try.ntmps32
    go_wp2
    go_ret
    exact ⟨by first | rfl | (simp; done) | (simp [*]; done), by repeat (first | exact Drawn0.refl _ | apply Drawn0.step)⟩

/-! ### kakugyoref17_Square: function 12 -/
def kakugyoref17_Square.f (a0 : Int) : Option (Int) := (kakugyoref17_size.f (wrap64 ((wrap64 (Int.tdiv a0 9)) - 4))).bind fun t107 => ((kakugyoref17_size.f (wrap64 ((Int.tmod a0 9) - 4))).bind fun t108 => (if t108 > t107 then (some (wrap64 (4 - t108))) else (some (wrap64 (4 - t107)))))
set_option maxHeartbeats 8000000 in
set_option maxRecDepth 100000 in
theorem kakugyoref17_Square.calls (a0 : Int) (r : Int) (w : World) (h : kakugyoref17_Square.f a0 = some r) :
    Calls Try.prog 12 #[.int .i64 a0] w fun e w' => e = .returned (.int .i64 r) ∧ Drawn0 w w' := by
  have H : ((kakugyoref17_size.f (wrap64 ((wrap64 (Int.tdiv a0 9)) - 4))).bind fun t107 => ((kakugyoref17_size.f (wrap64 ((Int.tmod a0 9) - 4))).bind fun t108 => (if t108 > t107 then (some (wrap64 (4 - t108))) else (some (wrap64 (4 - t107)))))) = some r := h
  clear h
  replace H := Option.bind_eq_some_iff.mp H
  obtain ⟨t107, A20, H⟩ := H
  replace H : ((kakugyoref17_size.f (wrap64 ((Int.tmod a0 9) - 4))).bind fun t108 => (if t108 > t107 then (some (wrap64 (4 - t108))) else (some (wrap64 (4 - t107))))) = some r := H
  have A2 := Aside0.mk A20
  clear A20
  replace H := Option.bind_eq_some_iff.mp H
  obtain ⟨t108, A30, H⟩ := H
  replace H : (if t108 > t107 then (some (wrap64 (4 - t108))) else (some (wrap64 (4 - t107)))) = some r := H
  have A3 := Aside0.mk A30
  clear A30
  by_cases c4 : t108 > t107
  · rw [if_pos c4] at H
    have c4b0 : decide (t107 < t108) = true := decide_eq_true c4
    clear c4
    obtain rfl := Option.some.inj H
    go_enter Try.func12, Try.ntmps12
    go_wp2_with (first | ((with_reducible refine gate_callee (f := 32) rfl ?_); refine goesL_ (some 8) rfl rfl Try.func32 (by kernel_rfl) rfl #[.int .i64 (wrap64 ((wrap64 (Int.tdiv a0 9)) - 4))] rfl (by (try simp only [List.map_toArray, List.map_cons, List.map_nil]); first | done | rfl | (simp only [List.length_drop, List.length_take]; rfl)) ?_; (with_reducible refine (kakugyoref17_size.calls (wrap64 ((wrap64 (Int.tdiv a0 9)) - 4)) t107 _ A2.out).mono ?_); rintro e w' ⟨rfl, ⟨nd, rfl⟩⟩; refine ⟨_, rfl, ?_⟩) | ((with_reducible refine gate_callee (f := 32) rfl ?_); refine goesL_ (some 12) rfl rfl Try.func32 (by kernel_rfl) rfl #[.int .i64 (wrap64 ((Int.tmod a0 9) - 4))] rfl (by (try simp only [List.map_toArray, List.map_cons, List.map_nil]); first | done | rfl | (simp only [List.length_drop, List.length_take]; rfl)) ?_; (with_reducible refine (kakugyoref17_size.calls (wrap64 ((Int.tmod a0 9) - 4)) t108 _ A3.out).mono ?_); rintro e w' ⟨rfl, ⟨nd, rfl⟩⟩; refine ⟨_, rfl, ?_⟩))
    go_ret
    exact ⟨by first | rfl | (simp; done) | (simp [*]; done), by repeat (first | exact Drawn0.refl _ | apply Drawn0.step)⟩
  · rw [if_neg c4] at H
    have c4b0 : decide (t107 < t108) = false := decide_eq_false c4
    clear c4
    obtain rfl := Option.some.inj H
    go_enter Try.func12, Try.ntmps12
    go_wp2_with (first | ((with_reducible refine gate_callee (f := 32) rfl ?_); refine goesL_ (some 8) rfl rfl Try.func32 (by kernel_rfl) rfl #[.int .i64 (wrap64 ((wrap64 (Int.tdiv a0 9)) - 4))] rfl (by (try simp only [List.map_toArray, List.map_cons, List.map_nil]); first | done | rfl | (simp only [List.length_drop, List.length_take]; rfl)) ?_; (with_reducible refine (kakugyoref17_size.calls (wrap64 ((wrap64 (Int.tdiv a0 9)) - 4)) t107 _ A2.out).mono ?_); rintro e w' ⟨rfl, ⟨nd, rfl⟩⟩; refine ⟨_, rfl, ?_⟩) | ((with_reducible refine gate_callee (f := 32) rfl ?_); refine goesL_ (some 12) rfl rfl Try.func32 (by kernel_rfl) rfl #[.int .i64 (wrap64 ((Int.tmod a0 9) - 4))] rfl (by (try simp only [List.map_toArray, List.map_cons, List.map_nil]); first | done | rfl | (simp only [List.length_drop, List.length_take]; rfl)) ?_; (with_reducible refine (kakugyoref17_size.calls (wrap64 ((Int.tmod a0 9) - 4)) t108 _ A3.out).mono ?_); rintro e w' ⟨rfl, ⟨nd, rfl⟩⟩; refine ⟨_, rfl, ?_⟩))
    go_ret
    exact ⟨by first | rfl | (simp; done) | (simp [*]; done), by repeat (first | exact Drawn0.refl _ | apply Drawn0.step)⟩

/-! ### kakugyolaw17_ValueKinds: function 3 -/
mutual
def kakugyolaw17_ValueKinds.j0 : Nat → Int → Int → Int → Int → Int → Bool → Option (Bool)
  | 0, _, _, _, _, _, _ => none
  | k + 1, x0, x1, x5, x6, x7, x15 => if x15 = true then ((kakugyoref17_Pieces.f).bind fun t110 => (if 0 ≤ x0 then (if x0 < (t110.length : Int) then (kakugyolaw17_ValueKinds.j1 k x0 x1 (rd t110 x0) x6 x7) else (none)) else (none))) else (kakugyolaw17_ValueKinds.j1 k x0 x1 x5 x6 x7)
def kakugyolaw17_ValueKinds.j1 : Nat → Int → Int → Int → Int → Int → Option (Bool)
  | 0, _, _, _, _, _ => none
  | k + 1, x0, x1, x5, x6, x7 => if x0 ≥ 1 then (kakugyolaw17_ValueKinds.j2 k x0 x1 x5 x6 x7 (decide (x0 ≤ 7))) else (kakugyolaw17_ValueKinds.j2 k x0 x1 x5 x6 x7 false)
def kakugyolaw17_ValueKinds.j2 : Nat → Int → Int → Int → Int → Int → Bool → Option (Bool)
  | 0, _, _, _, _, _, _ => none
  | k + 1, x0, x1, x5, x6, x7, x25 => if x25 = true then (kakugyolaw17_ValueKinds.j3 k x0 x1 x5 (wrap64 (x5 + (wrap64 (Int.tdiv x5 10)))) x7) else (kakugyolaw17_ValueKinds.j3 k x0 x1 x5 x6 x7)
def kakugyolaw17_ValueKinds.j3 : Nat → Int → Int → Int → Int → Int → Option (Bool)
  | 0, _, _, _, _, _ => none
  | k + 1, x0, x1, x5, x6, x7 => if x1 ≥ 0 then (kakugyolaw17_ValueKinds.j4 k x0 x1 x5 x6 x7 (decide (x1 ≤ 80))) else (kakugyolaw17_ValueKinds.j4 k x0 x1 x5 x6 x7 false)
def kakugyolaw17_ValueKinds.j4 : Nat → Int → Int → Int → Int → Int → Bool → Option (Bool)
  | 0, _, _, _, _, _, _ => none
  | k + 1, x0, x1, x5, x6, x7, x35 => if x35 = true then ((kakugyoref17_Square.f x1).bind fun t114 => ((value_Piece.f k x0).bind fun t115 => (if t115 = x5 then ((value_Hand.f k x0).bind fun t116 => (if t116 = x6 then ((value_Square.f x1).bind fun t117 => (some (t117 == t114))) else (some false))) else (some false)))) else ((value_Piece.f k x0).bind fun t118 => (if t118 = x5 then ((value_Hand.f k x0).bind fun t119 => (if t119 = x6 then ((value_Square.f x1).bind fun t120 => (some (t120 == x7))) else (some false))) else (some false)))
end
def kakugyolaw17_ValueKinds.f (k : Nat) (a0 : Int) (a1 : Int) : Option (Bool) := (kakugyolaw17_values.f).bind fun t109 => (if t109 = true then (if a0 ≥ 0 then (kakugyolaw17_ValueKinds.j0 k a0 a1 0 0 0 (decide (a0 ≤ 15))) else (kakugyolaw17_ValueKinds.j0 k a0 a1 0 0 0 false)) else (some false))
theorem kakugyolaw17_ValueKinds.mono_l : ∀ k, (∀ y0 y1 y2 y3 y4 y5, LeO (kakugyolaw17_ValueKinds.j0 k y0 y1 y2 y3 y4 y5) (kakugyolaw17_ValueKinds.j0 (k + 1) y0 y1 y2 y3 y4 y5)) ∧ (∀ y0 y1 y2 y3 y4, LeO (kakugyolaw17_ValueKinds.j1 k y0 y1 y2 y3 y4) (kakugyolaw17_ValueKinds.j1 (k + 1) y0 y1 y2 y3 y4)) ∧ (∀ y0 y1 y2 y3 y4 y5, LeO (kakugyolaw17_ValueKinds.j2 k y0 y1 y2 y3 y4 y5) (kakugyolaw17_ValueKinds.j2 (k + 1) y0 y1 y2 y3 y4 y5)) ∧ (∀ y0 y1 y2 y3 y4, LeO (kakugyolaw17_ValueKinds.j3 k y0 y1 y2 y3 y4) (kakugyolaw17_ValueKinds.j3 (k + 1) y0 y1 y2 y3 y4)) ∧ (∀ y0 y1 y2 y3 y4 y5, LeO (kakugyolaw17_ValueKinds.j4 k y0 y1 y2 y3 y4 y5) (kakugyolaw17_ValueKinds.j4 (k + 1) y0 y1 y2 y3 y4 y5))
  | 0 => ⟨fun _ _ _ _ _ _ r h => by simp [kakugyolaw17_ValueKinds.j0] at h, fun _ _ _ _ _ r h => by simp [kakugyolaw17_ValueKinds.j1] at h, fun _ _ _ _ _ _ r h => by simp [kakugyolaw17_ValueKinds.j2] at h, fun _ _ _ _ _ r h => by simp [kakugyolaw17_ValueKinds.j3] at h, fun _ _ _ _ _ _ r h => by simp [kakugyolaw17_ValueKinds.j4] at h⟩
  | k + 1 => by
    obtain ⟨ih0, ih1, ih2, ih3, ih4⟩ := kakugyolaw17_ValueKinds.mono_l k
    refine ⟨?_, ?_, ?_, ?_, ?_⟩
    · intro y0 y1 y2 y3 y4 y5
      unfold kakugyolaw17_ValueKinds.j0
      repeat' first
      | (with_reducible exact ih0 _ _ _ _ _ _)
      | (with_reducible exact ih1 _ _ _ _ _)
      | (with_reducible exact ih2 _ _ _ _ _ _)
      | (with_reducible exact ih3 _ _ _ _ _)
      | (with_reducible exact ih4 _ _ _ _ _ _)
      | (with_reducible exact value_Hand.mono _ _)
      | (with_reducible exact value_Piece.mono _ _)
      | (with_reducible exact LeO.refl _)
      | (with_reducible exact LeO.none _)
      | (with_reducible refine LeO.ite ?_ ?_)
      | (with_reducible refine LeO.bind ?_ (fun _ => ?_))
      | exact ih0 _ _ _ _ _ _
      | exact ih1 _ _ _ _ _
      | exact ih2 _ _ _ _ _ _
      | exact ih3 _ _ _ _ _
      | exact ih4 _ _ _ _ _ _
      | exact value_Hand.mono _ _
      | exact value_Piece.mono _ _
      | exact LeO.none _
      | refine LeO.ite ?_ ?_
      | refine LeO.bind ?_ (fun _ => ?_)
    · intro y0 y1 y2 y3 y4
      unfold kakugyolaw17_ValueKinds.j1
      repeat' first
      | (with_reducible exact ih0 _ _ _ _ _ _)
      | (with_reducible exact ih1 _ _ _ _ _)
      | (with_reducible exact ih2 _ _ _ _ _ _)
      | (with_reducible exact ih3 _ _ _ _ _)
      | (with_reducible exact ih4 _ _ _ _ _ _)
      | (with_reducible exact value_Hand.mono _ _)
      | (with_reducible exact value_Piece.mono _ _)
      | (with_reducible exact LeO.refl _)
      | (with_reducible exact LeO.none _)
      | (with_reducible refine LeO.ite ?_ ?_)
      | (with_reducible refine LeO.bind ?_ (fun _ => ?_))
      | exact ih0 _ _ _ _ _ _
      | exact ih1 _ _ _ _ _
      | exact ih2 _ _ _ _ _ _
      | exact ih3 _ _ _ _ _
      | exact ih4 _ _ _ _ _ _
      | exact value_Hand.mono _ _
      | exact value_Piece.mono _ _
      | exact LeO.none _
      | refine LeO.ite ?_ ?_
      | refine LeO.bind ?_ (fun _ => ?_)
    · intro y0 y1 y2 y3 y4 y5
      unfold kakugyolaw17_ValueKinds.j2
      repeat' first
      | (with_reducible exact ih0 _ _ _ _ _ _)
      | (with_reducible exact ih1 _ _ _ _ _)
      | (with_reducible exact ih2 _ _ _ _ _ _)
      | (with_reducible exact ih3 _ _ _ _ _)
      | (with_reducible exact ih4 _ _ _ _ _ _)
      | (with_reducible exact value_Hand.mono _ _)
      | (with_reducible exact value_Piece.mono _ _)
      | (with_reducible exact LeO.refl _)
      | (with_reducible exact LeO.none _)
      | (with_reducible refine LeO.ite ?_ ?_)
      | (with_reducible refine LeO.bind ?_ (fun _ => ?_))
      | exact ih0 _ _ _ _ _ _
      | exact ih1 _ _ _ _ _
      | exact ih2 _ _ _ _ _ _
      | exact ih3 _ _ _ _ _
      | exact ih4 _ _ _ _ _ _
      | exact value_Hand.mono _ _
      | exact value_Piece.mono _ _
      | exact LeO.none _
      | refine LeO.ite ?_ ?_
      | refine LeO.bind ?_ (fun _ => ?_)
    · intro y0 y1 y2 y3 y4
      unfold kakugyolaw17_ValueKinds.j3
      repeat' first
      | (with_reducible exact ih0 _ _ _ _ _ _)
      | (with_reducible exact ih1 _ _ _ _ _)
      | (with_reducible exact ih2 _ _ _ _ _ _)
      | (with_reducible exact ih3 _ _ _ _ _)
      | (with_reducible exact ih4 _ _ _ _ _ _)
      | (with_reducible exact value_Hand.mono _ _)
      | (with_reducible exact value_Piece.mono _ _)
      | (with_reducible exact LeO.refl _)
      | (with_reducible exact LeO.none _)
      | (with_reducible refine LeO.ite ?_ ?_)
      | (with_reducible refine LeO.bind ?_ (fun _ => ?_))
      | exact ih0 _ _ _ _ _ _
      | exact ih1 _ _ _ _ _
      | exact ih2 _ _ _ _ _ _
      | exact ih3 _ _ _ _ _
      | exact ih4 _ _ _ _ _ _
      | exact value_Hand.mono _ _
      | exact value_Piece.mono _ _
      | exact LeO.none _
      | refine LeO.ite ?_ ?_
      | refine LeO.bind ?_ (fun _ => ?_)
    · intro y0 y1 y2 y3 y4 y5
      unfold kakugyolaw17_ValueKinds.j4
      repeat' first
      | (with_reducible exact ih0 _ _ _ _ _ _)
      | (with_reducible exact ih1 _ _ _ _ _)
      | (with_reducible exact ih2 _ _ _ _ _ _)
      | (with_reducible exact ih3 _ _ _ _ _)
      | (with_reducible exact ih4 _ _ _ _ _ _)
      | (with_reducible exact value_Hand.mono _ _)
      | (with_reducible exact value_Piece.mono _ _)
      | (with_reducible exact LeO.refl _)
      | (with_reducible exact LeO.none _)
      | (with_reducible refine LeO.ite ?_ ?_)
      | (with_reducible refine LeO.bind ?_ (fun _ => ?_))
      | exact ih0 _ _ _ _ _ _
      | exact ih1 _ _ _ _ _
      | exact ih2 _ _ _ _ _ _
      | exact ih3 _ _ _ _ _
      | exact ih4 _ _ _ _ _ _
      | exact value_Hand.mono _ _
      | exact value_Piece.mono _ _
      | exact LeO.none _
      | refine LeO.ite ?_ ?_
      | refine LeO.bind ?_ (fun _ => ?_)
theorem kakugyolaw17_ValueKinds.mono : ∀ a0 a1 k, LeO (kakugyolaw17_ValueKinds.f k a0 a1) (kakugyolaw17_ValueKinds.f (k + 1) a0 a1) := by
  intro a0 a1 k
  obtain ⟨ih0, ih1, ih2, ih3, ih4⟩ := kakugyolaw17_ValueKinds.mono_l k
  unfold kakugyolaw17_ValueKinds.f
  repeat' first
      | (with_reducible exact ih0 _ _ _ _ _ _)
      | (with_reducible exact ih1 _ _ _ _ _)
      | (with_reducible exact ih2 _ _ _ _ _ _)
      | (with_reducible exact ih3 _ _ _ _ _)
      | (with_reducible exact ih4 _ _ _ _ _ _)
      | (with_reducible exact value_Hand.mono _ _)
      | (with_reducible exact value_Piece.mono _ _)
      | (with_reducible exact LeO.refl _)
      | (with_reducible exact LeO.none _)
      | (with_reducible refine LeO.ite ?_ ?_)
      | (with_reducible refine LeO.bind ?_ (fun _ => ?_))
      | exact ih0 _ _ _ _ _ _
      | exact ih1 _ _ _ _ _
      | exact ih2 _ _ _ _ _ _
      | exact ih3 _ _ _ _ _
      | exact ih4 _ _ _ _ _ _
      | exact value_Hand.mono _ _
      | exact value_Piece.mono _ _
      | exact LeO.none _
      | refine LeO.ite ?_ ?_
      | refine LeO.bind ?_ (fun _ => ?_)
set_option maxHeartbeats 8000000 in
set_option maxRecDepth 100000 in
theorem kakugyolaw17_ValueKinds.calls (k : Nat) (a0 : Int) (a1 : Int) (r : Bool) (w : World) (h : kakugyolaw17_ValueKinds.f k a0 a1 = some r) :
    Calls Try.prog 3 #[.int .i64 a0, .int .i64 a1] w fun e w' => e = .returned (.bool r) ∧ Below w.heap.size w w' := by
  have HB := Aside0.mk (Below.refl w.heap.size w)
  have H : ((kakugyolaw17_values.f).bind fun t109 => (if t109 = true then (if a0 ≥ 0 then (kakugyolaw17_ValueKinds.j0 k a0 a1 0 0 0 (decide (a0 ≤ 15))) else (kakugyolaw17_ValueKinds.j0 k a0 a1 0 0 0 false)) else (some false))) = some r := h
  clear h
  replace H := Option.bind_eq_some_iff.mp H
  obtain ⟨t109, A30, H⟩ := H
  replace H : (if t109 = true then (if a0 ≥ 0 then (kakugyolaw17_ValueKinds.j0 k a0 a1 0 0 0 (decide (a0 ≤ 15))) else (kakugyolaw17_ValueKinds.j0 k a0 a1 0 0 0 false)) else (some false)) = some r := H
  have A3 := Aside0.mk A30
  clear A30
  by_cases c4 : t109 = true
  · subst c4
    have H1 : (if a0 ≥ 0 then (kakugyolaw17_ValueKinds.j0 k a0 a1 0 0 0 (decide (a0 ≤ 15))) else (kakugyolaw17_ValueKinds.j0 k a0 a1 0 0 0 false)) = some r := by rw [if_pos rfl] at H; exact H
    clear H
    have H := H1
    clear H1
    have HC5 := Aside0.mk H
    clear H
    go_enter Try.func3, Try.ntmps3
    go_upto_region 4 with (first | ((with_reducible refine gate_callee (f := 10) rfl ?_); refine goesL_ (some 8) rfl rfl Try.func10 (by kernel_rfl) rfl #[] rfl (by (try simp only [List.map_toArray, List.map_cons, List.map_nil]); first | done | rfl | (simp only [List.length_drop, List.length_take]; rfl)) ?_; (with_reducible refine (kakugyolaw17_values.calls  true _ A3.out).mono ?_); rintro e w6 ⟨rfl, hb⟩; refine ⟨_, rfl, ?_⟩; have n0_ := Aside0.mk (below_step (by repeat (first | (with_reducible first | exact HB.out | apply below_alloc | apply pw_below_drewN | apply below_drew1) | exact HB.out)) hb); clear HB; have HB := n0_; clear n0_; (try clear hb); (try clear hb2); (try clear hk); (try clear hi)))
    (try simp only [Act.put, List.setIfInBounds_toArray, List.set_cons_zero, List.set_cons_succ])
    go_cut [15] (fun v15 wc => ∃ (kq : Nat) (x15_4 : Bool), v15 = .bool x15_4 ∧ Aside0 (kakugyolaw17_ValueKinds.j0 kq a0 a1 0 0 0 x15_4 = some r) ∧ Aside0 (kq ≤ k) ∧ Aside0 (Below w.heap.size w wc))
    case first =>
      have H := HC5.out
      clear HC5
      by_cases c7 : a0 ≥ 0
      · rw [if_pos c7] at H
        have c7b0 : decide (0 ≤ a0) = true := decide_eq_true c7
        clear c7
        (first | rw [c7b0] | (simp only [i64_w, i32_w]; rw [c7b0]) | skip)
        have H' := Aside0.mk H
        clear H
        go_wp2
        go_meet
        case rel => exact ⟨_, (decide (a0 ≤ 15)), (by first | rfl | (simp; done) | (simp [*]; done)), H', ⟨by first | omega | exact Nat.le_refl _⟩, ⟨by repeat (first | (with_reducible first | exact HB.out | apply below_alloc | apply pw_below_drewN | apply below_drew1) | exact HB.out)⟩⟩
      · rw [if_neg c7] at H
        have c7b0 : decide (0 ≤ a0) = false := decide_eq_false c7
        clear c7
        (first | rw [c7b0] | (simp only [i64_w, i32_w]; rw [c7b0]) | skip)
        have H' := Aside0.mk H
        clear H
        go_wp2
        go_meet
        case rel => exact ⟨_, (false), (by first | rfl | (simp; done) | (simp [*]; done)), H', ⟨by first | omega | exact Nat.le_refl _⟩, ⟨by repeat (first | (with_reducible first | exact HB.out | apply below_alloc | apply pw_below_drewN | apply below_drew1) | exact HB.out)⟩⟩
    case rest =>
      clear HC5
      try clear c1
      try clear p2
      try clear c3
      try clear c4
      try clear c7
      try clear c7b0
      obtain ⟨kq, x15_4, rfl, HA, HJ4, HB⟩ := hcut
      cases kq with
      | zero => exact absurd HA.out (by simp [kakugyolaw17_ValueKinds.j0])
      | succ kj4 =>
        have H := HA.out
        clear HA
        simp only [kakugyolaw17_ValueKinds.j0] at H
        have HC8 := Aside0.mk H
        clear H
        go_upto_if 15 with (fail)
        go_cut [5] (fun v5 wc => ∃ (kq : Nat) (x5_7 : Int), v5 = .int .i64 x5_7 ∧ Aside0 (kakugyolaw17_ValueKinds.j1 kq a0 a1 x5_7 0 0 = some r) ∧ Aside0 (kq ≤ kj4) ∧ Aside0 (Below w.heap.size w wc))
        case first =>
          have H := HC8.out
          clear HC8
          by_cases c9 : x15_4 = true
          · subst c9
            have H1 : ((kakugyoref17_Pieces.f).bind fun t110 => (if 0 ≤ a0 then (if a0 < (t110.length : Int) then (kakugyolaw17_ValueKinds.j1 kj4 a0 a1 (rd t110 a0) 0 0) else (none)) else (none))) = some r := by rw [if_pos rfl] at H; exact H
            clear H
            have H := H1
            clear H1
            replace H := Option.bind_eq_some_iff.mp H
            obtain ⟨t110, A100, H⟩ := H
            replace H : (if 0 ≤ a0 then (if a0 < (t110.length : Int) then (kakugyolaw17_ValueKinds.j1 kj4 a0 a1 (rd t110 a0) 0 0) else (none)) else (none)) = some r := H
            have A10 := Aside0.mk A100
            clear A100
            by_cases c11 : 0 ≤ a0
            · rw [if_pos c11] at H
              have c11b0 : decide (0 ≤ a0) = true := decide_eq_true c11
              clear c11
              (first | rw [c11b0] | (simp only [i64_w, i32_w]; rw [c11b0]) | skip)
              by_cases c12 : a0 < (t110.length : Int)
              · rw [if_pos c12] at H
                have c12b0 : decide (a0 < (t110.length : Int)) = true := decide_eq_true c12
                clear c12
                have H' := Aside0.mk H
                clear H
                go_wp2_with (first | ((with_reducible refine gate_callee (f := 11) rfl ?_); refine goesL_ (some 16) rfl rfl Try.func11 (by kernel_rfl) rfl #[] rfl (by (try simp only [List.map_toArray, List.map_cons, List.map_nil]); first | done | rfl | (simp only [List.length_drop, List.length_take]; rfl)) ?_; (with_reducible refine (kakugyoref17_Pieces.calls  t110 _ A10.out).mono ?_); rintro e w13 ⟨v111, rfl, ho0, hb⟩; refine ⟨_, rfl, ?_⟩; have n0_ := Aside0.mk (Kd.R_lower ho0 (below_size (by repeat (first | (with_reducible first | exact HB.out | apply below_alloc | apply pw_below_drewN | apply below_drew1) | exact HB.out)))); have n1_ := Aside0.mk (below_step (by repeat (first | (with_reducible first | exact HB.out | apply below_alloc | apply pw_below_drewN | apply below_drew1) | exact HB.out)) hb); clear HB; have HO112 := n0_; have HB := n1_; clear n0_ n1_; (try clear hb); (try clear hb2); (try clear hk); (try clear hi); (try clear ho0); obtain ⟨Ao14, co14, eo14⟩ := Kd.R_slice HO112.out; subst eo14; have p113 : 0 ≤ (a0 : Int) := of_decide_eq_true (by first | (with_reducible assumption) | assumption); have q113 : a0 < (t110.length : Int) := of_decide_eq_true (by first | (with_reducible assumption) | assumption); obtain ⟨ad113, e113, hx113_0⟩ := Kd.at_int (Kd.R_reads' HO112.out).2.2 a0 p113 q113; cases e113; replace p113 := eq_true p113; replace q113 := eq_true q113))
                go_meet
                case rel => exact ⟨_, (rd t110 a0), (by first | rfl | (simp; done) | (simp [*]; done)), H', ⟨by have := HJ4.out; first | omega | exact Nat.le_refl _⟩, ⟨by repeat (first | (with_reducible first | exact HB.out | apply below_alloc | apply pw_below_drewN | apply below_drew1) | exact HB.out)⟩⟩
              · rw [if_neg c12] at H
                exact absurd H (by simp)
            · rw [if_neg c11] at H
              exact absurd H (by simp)
          · replace c9 := Bool.eq_false_iff.mpr c9
            subst c9
            have H1 : (kakugyolaw17_ValueKinds.j1 kj4 a0 a1 0 0 0) = some r := by rw [if_neg (show ¬ (false = true) by decide)] at H; exact H
            clear H
            have H := H1
            clear H1
            have H' := Aside0.mk H
            clear H
            go_wp2
            go_meet
            case rel => exact ⟨_, (0), (by first | rfl | (simp; done) | (simp [*]; done)), H', ⟨by have := HJ4.out; first | omega | exact Nat.le_refl _⟩, ⟨by repeat (first | (with_reducible first | exact HB.out | apply below_alloc | apply pw_below_drewN | apply below_drew1) | exact HB.out)⟩⟩
        case rest =>
          clear HC8
          try clear c1
          try clear p1
          try clear q1
          try clear hx1
          try clear p2
          try clear c3
          try clear c4
          try clear c7
          try clear c7b0
          try clear c9
          try clear c10
          try clear c11
          try clear c11b0
          try clear p11
          try clear q11
          try clear hx11
          try clear c12
          try clear c12b0
          try clear hx113_0
          try clear p113
          try clear p2
          try clear q113
          obtain ⟨kq, x5_7, rfl, HA, HJ7, HB⟩ := hcut
          cases kq with
          | zero => exact absurd HA.out (by simp [kakugyolaw17_ValueKinds.j1])
          | succ kj7 =>
            have H := HA.out
            clear HA
            simp only [kakugyolaw17_ValueKinds.j1] at H
            have HC15 := Aside0.mk H
            clear H
            go_upto_region 6 with (fail)
            go_cut [25] (fun v25 wc => ∃ (kq : Nat) (x25_14 : Bool), v25 = .bool x25_14 ∧ Aside0 (kakugyolaw17_ValueKinds.j2 kq a0 a1 x5_7 0 0 x25_14 = some r) ∧ Aside0 (kq ≤ kj7) ∧ Aside0 (Below w.heap.size w wc))
            case first =>
              have H := HC15.out
              clear HC15
              by_cases c16 : a0 ≥ 1
              · rw [if_pos c16] at H
                have c16b0 : decide (1 ≤ a0) = true := decide_eq_true c16
                clear c16
                (first | rw [c16b0] | (simp only [i64_w, i32_w]; rw [c16b0]) | skip)
                have H' := Aside0.mk H
                clear H
                go_wp2
                go_meet
                case rel => exact ⟨_, (decide (a0 ≤ 7)), (by first | rfl | (simp; done) | (simp [*]; done)), H', ⟨by have := HJ4.out; have := HJ7.out; first | omega | exact Nat.le_refl _⟩, ⟨by repeat (first | (with_reducible first | exact HB.out | apply below_alloc | apply pw_below_drewN | apply below_drew1) | exact HB.out)⟩⟩
              · rw [if_neg c16] at H
                have c16b0 : decide (1 ≤ a0) = false := decide_eq_false c16
                clear c16
                (first | rw [c16b0] | (simp only [i64_w, i32_w]; rw [c16b0]) | skip)
                have H' := Aside0.mk H
                clear H
                go_wp2
                go_meet
                case rel => exact ⟨_, (false), (by first | rfl | (simp; done) | (simp [*]; done)), H', ⟨by have := HJ4.out; have := HJ7.out; first | omega | exact Nat.le_refl _⟩, ⟨by repeat (first | (with_reducible first | exact HB.out | apply below_alloc | apply pw_below_drewN | apply below_drew1) | exact HB.out)⟩⟩
            case rest =>
              clear HC15
              try clear c1
              try clear p1
              try clear q1
              try clear hx1
              try clear p2
              try clear c3
              try clear c4
              try clear c7
              try clear c7b0
              try clear c9
              try clear c10
              try clear c11
              try clear c11b0
              try clear p11
              try clear q11
              try clear hx11
              try clear c12
              try clear c12b0
              try clear c16
              try clear c16b0
              try clear hx113_0
              try clear p1
              try clear p11
              try clear p113
              try clear p2
              try clear q1
              try clear q11
              try clear q113
              obtain ⟨kq, x25_14, rfl, HA, HJ14, HB⟩ := hcut
              cases kq with
              | zero => exact absurd HA.out (by simp [kakugyolaw17_ValueKinds.j2])
              | succ kj14 =>
                have H := HA.out
                clear HA
                simp only [kakugyolaw17_ValueKinds.j2] at H
                have HC17 := Aside0.mk H
                clear H
                go_upto_if 25 with (fail)
                go_cut [6] (fun v6 wc => ∃ (kq : Nat) (x6_16 : Int), v6 = .int .i64 x6_16 ∧ Aside0 (kakugyolaw17_ValueKinds.j3 kq a0 a1 x5_7 x6_16 0 = some r) ∧ Aside0 (kq ≤ kj14) ∧ Aside0 (Below w.heap.size w wc))
                case first =>
                  have H := HC17.out
                  clear HC17
                  by_cases c18 : x25_14 = true
                  · subst c18
                    have H1 : (kakugyolaw17_ValueKinds.j3 kj14 a0 a1 x5_7 (wrap64 (x5_7 + (wrap64 (Int.tdiv x5_7 10)))) 0) = some r := by rw [if_pos rfl] at H; exact H
                    clear H
                    have H := H1
                    clear H1
                    have H' := Aside0.mk H
                    clear H
                    go_wp2
                    go_meet
                    case rel => exact ⟨_, (wrap64 (x5_7 + (wrap64 (Int.tdiv x5_7 10)))), (by first | rfl | (simp; done) | (simp [*]; done)), H', ⟨by have := HJ4.out; have := HJ7.out; have := HJ14.out; first | omega | exact Nat.le_refl _⟩, ⟨by repeat (first | (with_reducible first | exact HB.out | apply below_alloc | apply pw_below_drewN | apply below_drew1) | exact HB.out)⟩⟩
                  · replace c18 := Bool.eq_false_iff.mpr c18
                    subst c18
                    have H1 : (kakugyolaw17_ValueKinds.j3 kj14 a0 a1 x5_7 0 0) = some r := by rw [if_neg (show ¬ (false = true) by decide)] at H; exact H
                    clear H
                    have H := H1
                    clear H1
                    have H' := Aside0.mk H
                    clear H
                    go_wp2
                    go_meet
                    case rel => exact ⟨_, (0), (by first | rfl | (simp; done) | (simp [*]; done)), H', ⟨by have := HJ4.out; have := HJ7.out; have := HJ14.out; first | omega | exact Nat.le_refl _⟩, ⟨by repeat (first | (with_reducible first | exact HB.out | apply below_alloc | apply pw_below_drewN | apply below_drew1) | exact HB.out)⟩⟩
                case rest =>
                  clear HC17
                  try clear c1
                  try clear p1
                  try clear q1
                  try clear hx1
                  try clear p2
                  try clear c3
                  try clear c4
                  try clear p6
                  try clear c7
                  try clear c7b0
                  try clear c9
                  try clear c10
                  try clear c11
                  try clear c11b0
                  try clear p11
                  try clear q11
                  try clear hx11
                  try clear c12
                  try clear c12b0
                  try clear c16
                  try clear c16b0
                  try clear c18
                  try clear hx113_0
                  try clear p1
                  try clear p11
                  try clear p113
                  try clear p2
                  try clear q1
                  try clear q11
                  try clear q113
                  obtain ⟨kq, x6_16, rfl, HA, HJ16, HB⟩ := hcut
                  cases kq with
                  | zero => exact absurd HA.out (by simp [kakugyolaw17_ValueKinds.j3])
                  | succ kj16 =>
                    have H := HA.out
                    clear HA
                    simp only [kakugyolaw17_ValueKinds.j3] at H
                    have HC19 := Aside0.mk H
                    clear H
                    go_upto_region 8 with (fail)
                    go_cut [35] (fun v35 wc => ∃ (kq : Nat) (x35_18 : Bool), v35 = .bool x35_18 ∧ Aside0 (kakugyolaw17_ValueKinds.j4 kq a0 a1 x5_7 x6_16 0 x35_18 = some r) ∧ Aside0 (kq ≤ kj16) ∧ Aside0 (Below w.heap.size w wc))
                    case first =>
                      have H := HC19.out
                      clear HC19
                      by_cases c20 : a1 ≥ 0
                      · rw [if_pos c20] at H
                        have c20b0 : decide (0 ≤ a1) = true := decide_eq_true c20
                        clear c20
                        (first | rw [c20b0] | (simp only [i64_w, i32_w]; rw [c20b0]) | skip)
                        have H' := Aside0.mk H
                        clear H
                        go_wp2
                        go_meet
                        case rel => exact ⟨_, (decide (a1 ≤ 80)), (by first | rfl | (simp; done) | (simp [*]; done)), H', ⟨by have := HJ4.out; have := HJ7.out; have := HJ14.out; have := HJ16.out; first | omega | exact Nat.le_refl _⟩, ⟨by repeat (first | (with_reducible first | exact HB.out | apply below_alloc | apply pw_below_drewN | apply below_drew1) | exact HB.out)⟩⟩
                      · rw [if_neg c20] at H
                        have c20b0 : decide (0 ≤ a1) = false := decide_eq_false c20
                        clear c20
                        (first | rw [c20b0] | (simp only [i64_w, i32_w]; rw [c20b0]) | skip)
                        have H' := Aside0.mk H
                        clear H
                        go_wp2
                        go_meet
                        case rel => exact ⟨_, (false), (by first | rfl | (simp; done) | (simp [*]; done)), H', ⟨by have := HJ4.out; have := HJ7.out; have := HJ14.out; have := HJ16.out; first | omega | exact Nat.le_refl _⟩, ⟨by repeat (first | (with_reducible first | exact HB.out | apply below_alloc | apply pw_below_drewN | apply below_drew1) | exact HB.out)⟩⟩
                    case rest =>
                      clear HC19
                      try clear c1
                      try clear p1
                      try clear q1
                      try clear hx1
                      try clear c2
                      try clear p2
                      try clear c3
                      try clear c4
                      try clear p6
                      try clear c7
                      try clear c7b0
                      try clear c9
                      try clear c10
                      try clear c11
                      try clear c11b0
                      try clear p11
                      try clear q11
                      try clear hx11
                      try clear c12
                      try clear c12b0
                      try clear c16
                      try clear c16b0
                      try clear c18
                      try clear c20
                      try clear c20b0
                      try clear hx113_0
                      try clear p1
                      try clear p11
                      try clear p113
                      try clear p2
                      try clear p6
                      try clear q1
                      try clear q11
                      try clear q113
                      obtain ⟨kq, x35_18, rfl, HA, HJ18, HB⟩ := hcut
                      cases kq with
                      | zero => exact absurd HA.out (by simp [kakugyolaw17_ValueKinds.j4])
                      | succ kj18 =>
                        have H := HA.out
                        clear HA
                        simp only [kakugyolaw17_ValueKinds.j4] at H
                        by_cases c21 : x35_18 = true
                        · subst c21
                          have H1 : ((kakugyoref17_Square.f a1).bind fun t114 => ((value_Piece.f kj18 a0).bind fun t115 => (if t115 = x5_7 then ((value_Hand.f kj18 a0).bind fun t116 => (if t116 = x6_16 then ((value_Square.f a1).bind fun t117 => (some (t117 == t114))) else (some false))) else (some false)))) = some r := by rw [if_pos rfl] at H; exact H
                          clear H
                          have H := H1
                          clear H1
                          replace H := Option.bind_eq_some_iff.mp H
                          obtain ⟨t114, A220, H⟩ := H
                          replace H : ((value_Piece.f kj18 a0).bind fun t115 => (if t115 = x5_7 then ((value_Hand.f kj18 a0).bind fun t116 => (if t116 = x6_16 then ((value_Square.f a1).bind fun t117 => (some (t117 == t114))) else (some false))) else (some false))) = some r := H
                          have A22 := Aside0.mk A220
                          clear A220
                          replace H := Option.bind_eq_some_iff.mp H
                          obtain ⟨t115, A230, H⟩ := H
                          replace H : (if t115 = x5_7 then ((value_Hand.f kj18 a0).bind fun t116 => (if t116 = x6_16 then ((value_Square.f a1).bind fun t117 => (some (t117 == t114))) else (some false))) else (some false)) = some r := H
                          have A23 := Aside0.mk A230
                          clear A230
                          by_cases c24 : t115 = x5_7
                          · rw [if_pos c24] at H
                            have c24b0 : (t115 == x5_7) = true := beq_iff_eq.mpr c24
                            have c24b1 : (t115 != x5_7) = false := bne_eq_false_iff_eq.mpr c24
                            clear c24
                            replace H := Option.bind_eq_some_iff.mp H
                            obtain ⟨t116, A250, H⟩ := H
                            replace H : (if t116 = x6_16 then ((value_Square.f a1).bind fun t117 => (some (t117 == t114))) else (some false)) = some r := H
                            have A25 := Aside0.mk A250
                            clear A250
                            by_cases c26 : t116 = x6_16
                            · rw [if_pos c26] at H
                              have c26b0 : (t116 == x6_16) = true := beq_iff_eq.mpr c26
                              have c26b1 : (t116 != x6_16) = false := bne_eq_false_iff_eq.mpr c26
                              clear c26
                              replace H := Option.bind_eq_some_iff.mp H
                              obtain ⟨t117, A270, H⟩ := H
                              replace H : (some (t117 == t114)) = some r := H
                              have A27 := Aside0.mk A270
                              clear A270
                              obtain rfl := Option.some.inj H
                              go_wp2_with (first | ((with_reducible refine gate_callee (f := 12) rfl ?_); refine goesL_ (some 37) rfl rfl Try.func12 (by kernel_rfl) rfl #[.int .i64 a1] rfl (by (try simp only [List.map_toArray, List.map_cons, List.map_nil]); first | done | rfl | (simp only [List.length_drop, List.length_take]; rfl)) ?_; (with_reducible refine (kakugyoref17_Square.calls a1 t114 _ A22.out).mono ?_); rintro e w' ⟨rfl, ⟨nd, rfl⟩⟩; refine ⟨_, rfl, ?_⟩) | ((with_reducible refine gate_callee (f := 13) rfl ?_); refine goesL_ (some 39) rfl rfl Try.func13 (by kernel_rfl) rfl #[.int .i64 a0] rfl (by (try simp only [List.map_toArray, List.map_cons, List.map_nil]); first | done | rfl | (simp only [List.length_drop, List.length_take]; rfl)) ?_; (with_reducible refine (value_Piece.calls kj18 a0 t115 _ A23.out).mono ?_); rintro e w' ⟨rfl, ⟨nd, rfl⟩⟩; refine ⟨_, rfl, ?_⟩) | (go_at_call 14; (with_reducible refine (value_Hand.calls kj18 a0 t116 _ A25.out).mono ?_); rintro e w' ⟨rfl, ⟨nd, rfl⟩⟩) | (go_at_call 15; (with_reducible refine (value_Square.calls a1 t117 _ A27.out).mono ?_); rintro e w' ⟨rfl, ⟨nd, rfl⟩⟩))
                              go_ret
                              exact ⟨by first | rfl | (simp [errW_none, errW_some] <;> rfl) | (simp [*, errW_none, errW_some] <;> rfl) | (simp [*, errW_none, errW_some]; generalize ByteArray.toList _ = q_; cases q_ <;> rfl), by repeat (first | (with_reducible first | exact HB.out | apply below_alloc | apply pw_below_drewN | apply below_drew1) | exact HB.out)⟩
                            · rw [if_neg c26] at H
                              have c26b0 : (t116 == x6_16) = false := beq_eq_false_iff_ne.mpr c26
                              have c26b1 : (t116 != x6_16) = true := bne_iff_ne.mpr c26
                              obtain rfl := Option.some.inj H
                              go_wp2_with (first | ((with_reducible refine gate_callee (f := 12) rfl ?_); refine goesL_ (some 37) rfl rfl Try.func12 (by kernel_rfl) rfl #[.int .i64 a1] rfl (by (try simp only [List.map_toArray, List.map_cons, List.map_nil]); first | done | rfl | (simp only [List.length_drop, List.length_take]; rfl)) ?_; (with_reducible refine (kakugyoref17_Square.calls a1 t114 _ A22.out).mono ?_); rintro e w' ⟨rfl, ⟨nd, rfl⟩⟩; refine ⟨_, rfl, ?_⟩) | ((with_reducible refine gate_callee (f := 13) rfl ?_); refine goesL_ (some 39) rfl rfl Try.func13 (by kernel_rfl) rfl #[.int .i64 a0] rfl (by (try simp only [List.map_toArray, List.map_cons, List.map_nil]); first | done | rfl | (simp only [List.length_drop, List.length_take]; rfl)) ?_; (with_reducible refine (value_Piece.calls kj18 a0 t115 _ A23.out).mono ?_); rintro e w' ⟨rfl, ⟨nd, rfl⟩⟩; refine ⟨_, rfl, ?_⟩) | (go_at_call 14; (with_reducible refine (value_Hand.calls kj18 a0 t116 _ A25.out).mono ?_); rintro e w' ⟨rfl, ⟨nd, rfl⟩⟩))
                              go_ret
                              exact ⟨by first | rfl | (simp [errW_none, errW_some] <;> rfl) | (simp [*, errW_none, errW_some] <;> rfl) | (simp [*, errW_none, errW_some]; generalize ByteArray.toList _ = q_; cases q_ <;> rfl), by repeat (first | (with_reducible first | exact HB.out | apply below_alloc | apply pw_below_drewN | apply below_drew1) | exact HB.out)⟩
                          · rw [if_neg c24] at H
                            have c24b0 : (t115 == x5_7) = false := beq_eq_false_iff_ne.mpr c24
                            have c24b1 : (t115 != x5_7) = true := bne_iff_ne.mpr c24
                            obtain rfl := Option.some.inj H
                            go_wp2_with (first | ((with_reducible refine gate_callee (f := 12) rfl ?_); refine goesL_ (some 37) rfl rfl Try.func12 (by kernel_rfl) rfl #[.int .i64 a1] rfl (by (try simp only [List.map_toArray, List.map_cons, List.map_nil]); first | done | rfl | (simp only [List.length_drop, List.length_take]; rfl)) ?_; (with_reducible refine (kakugyoref17_Square.calls a1 t114 _ A22.out).mono ?_); rintro e w' ⟨rfl, ⟨nd, rfl⟩⟩; refine ⟨_, rfl, ?_⟩) | ((with_reducible refine gate_callee (f := 13) rfl ?_); refine goesL_ (some 39) rfl rfl Try.func13 (by kernel_rfl) rfl #[.int .i64 a0] rfl (by (try simp only [List.map_toArray, List.map_cons, List.map_nil]); first | done | rfl | (simp only [List.length_drop, List.length_take]; rfl)) ?_; (with_reducible refine (value_Piece.calls kj18 a0 t115 _ A23.out).mono ?_); rintro e w' ⟨rfl, ⟨nd, rfl⟩⟩; refine ⟨_, rfl, ?_⟩))
                            go_ret
                            exact ⟨by first | rfl | (simp [errW_none, errW_some] <;> rfl) | (simp [*, errW_none, errW_some] <;> rfl) | (simp [*, errW_none, errW_some]; generalize ByteArray.toList _ = q_; cases q_ <;> rfl), by repeat (first | (with_reducible first | exact HB.out | apply below_alloc | apply pw_below_drewN | apply below_drew1) | exact HB.out)⟩
                        · replace c21 := Bool.eq_false_iff.mpr c21
                          subst c21
                          have H1 : ((value_Piece.f kj18 a0).bind fun t118 => (if t118 = x5_7 then ((value_Hand.f kj18 a0).bind fun t119 => (if t119 = x6_16 then ((value_Square.f a1).bind fun t120 => (some (t120 == 0))) else (some false))) else (some false))) = some r := by rw [if_neg (show ¬ (false = true) by decide)] at H; exact H
                          clear H
                          have H := H1
                          clear H1
                          replace H := Option.bind_eq_some_iff.mp H
                          obtain ⟨t118, A280, H⟩ := H
                          replace H : (if t118 = x5_7 then ((value_Hand.f kj18 a0).bind fun t119 => (if t119 = x6_16 then ((value_Square.f a1).bind fun t120 => (some (t120 == 0))) else (some false))) else (some false)) = some r := H
                          have A28 := Aside0.mk A280
                          clear A280
                          by_cases c29 : t118 = x5_7
                          · rw [if_pos c29] at H
                            have c29b0 : (t118 == x5_7) = true := beq_iff_eq.mpr c29
                            have c29b1 : (t118 != x5_7) = false := bne_eq_false_iff_eq.mpr c29
                            clear c29
                            replace H := Option.bind_eq_some_iff.mp H
                            obtain ⟨t119, A300, H⟩ := H
                            replace H : (if t119 = x6_16 then ((value_Square.f a1).bind fun t120 => (some (t120 == 0))) else (some false)) = some r := H
                            have A30 := Aside0.mk A300
                            clear A300
                            by_cases c31 : t119 = x6_16
                            · rw [if_pos c31] at H
                              have c31b0 : (t119 == x6_16) = true := beq_iff_eq.mpr c31
                              have c31b1 : (t119 != x6_16) = false := bne_eq_false_iff_eq.mpr c31
                              clear c31
                              replace H := Option.bind_eq_some_iff.mp H
                              obtain ⟨t120, A320, H⟩ := H
                              replace H : (some (t120 == 0)) = some r := H
                              have A32 := Aside0.mk A320
                              clear A320
                              obtain rfl := Option.some.inj H
                              go_wp2_with (first | ((with_reducible refine gate_callee (f := 13) rfl ?_); refine goesL_ (some 39) rfl rfl Try.func13 (by kernel_rfl) rfl #[.int .i64 a0] rfl (by (try simp only [List.map_toArray, List.map_cons, List.map_nil]); first | done | rfl | (simp only [List.length_drop, List.length_take]; rfl)) ?_; (with_reducible refine (value_Piece.calls kj18 a0 t118 _ A28.out).mono ?_); rintro e w' ⟨rfl, ⟨nd, rfl⟩⟩; refine ⟨_, rfl, ?_⟩) | (go_at_call 14; (with_reducible refine (value_Hand.calls kj18 a0 t119 _ A30.out).mono ?_); rintro e w' ⟨rfl, ⟨nd, rfl⟩⟩) | (go_at_call 15; (with_reducible refine (value_Square.calls a1 t120 _ A32.out).mono ?_); rintro e w' ⟨rfl, ⟨nd, rfl⟩⟩))
                              go_ret
                              exact ⟨by first | rfl | (simp [errW_none, errW_some] <;> rfl) | (simp [*, errW_none, errW_some] <;> rfl) | (simp [*, errW_none, errW_some]; generalize ByteArray.toList _ = q_; cases q_ <;> rfl), by repeat (first | (with_reducible first | exact HB.out | apply below_alloc | apply pw_below_drewN | apply below_drew1) | exact HB.out)⟩
                            · rw [if_neg c31] at H
                              have c31b0 : (t119 == x6_16) = false := beq_eq_false_iff_ne.mpr c31
                              have c31b1 : (t119 != x6_16) = true := bne_iff_ne.mpr c31
                              obtain rfl := Option.some.inj H
                              go_wp2_with (first | ((with_reducible refine gate_callee (f := 13) rfl ?_); refine goesL_ (some 39) rfl rfl Try.func13 (by kernel_rfl) rfl #[.int .i64 a0] rfl (by (try simp only [List.map_toArray, List.map_cons, List.map_nil]); first | done | rfl | (simp only [List.length_drop, List.length_take]; rfl)) ?_; (with_reducible refine (value_Piece.calls kj18 a0 t118 _ A28.out).mono ?_); rintro e w' ⟨rfl, ⟨nd, rfl⟩⟩; refine ⟨_, rfl, ?_⟩) | (go_at_call 14; (with_reducible refine (value_Hand.calls kj18 a0 t119 _ A30.out).mono ?_); rintro e w' ⟨rfl, ⟨nd, rfl⟩⟩))
                              go_ret
                              exact ⟨by first | rfl | (simp [errW_none, errW_some] <;> rfl) | (simp [*, errW_none, errW_some] <;> rfl) | (simp [*, errW_none, errW_some]; generalize ByteArray.toList _ = q_; cases q_ <;> rfl), by repeat (first | (with_reducible first | exact HB.out | apply below_alloc | apply pw_below_drewN | apply below_drew1) | exact HB.out)⟩
                          · rw [if_neg c29] at H
                            have c29b0 : (t118 == x5_7) = false := beq_eq_false_iff_ne.mpr c29
                            have c29b1 : (t118 != x5_7) = true := bne_iff_ne.mpr c29
                            obtain rfl := Option.some.inj H
                            go_wp2_with (first | ((with_reducible refine gate_callee (f := 13) rfl ?_); refine goesL_ (some 39) rfl rfl Try.func13 (by kernel_rfl) rfl #[.int .i64 a0] rfl (by (try simp only [List.map_toArray, List.map_cons, List.map_nil]); first | done | rfl | (simp only [List.length_drop, List.length_take]; rfl)) ?_; (with_reducible refine (value_Piece.calls kj18 a0 t118 _ A28.out).mono ?_); rintro e w' ⟨rfl, ⟨nd, rfl⟩⟩; refine ⟨_, rfl, ?_⟩))
                            go_ret
                            exact ⟨by first | rfl | (simp [errW_none, errW_some] <;> rfl) | (simp [*, errW_none, errW_some] <;> rfl) | (simp [*, errW_none, errW_some]; generalize ByteArray.toList _ = q_; cases q_ <;> rfl), by repeat (first | (with_reducible first | exact HB.out | apply below_alloc | apply pw_below_drewN | apply below_drew1) | exact HB.out)⟩
  · replace c4 := Bool.eq_false_iff.mpr c4
    subst c4
    have H1 : (some false) = some r := by rw [if_neg (show ¬ (false = true) by decide)] at H; exact H
    clear H
    have H := H1
    clear H1
    obtain rfl := Option.some.inj H
    go_enter Try.func3, Try.ntmps3
    go_wp2_with (first | ((with_reducible refine gate_callee (f := 10) rfl ?_); refine goesL_ (some 8) rfl rfl Try.func10 (by kernel_rfl) rfl #[] rfl (by (try simp only [List.map_toArray, List.map_cons, List.map_nil]); first | done | rfl | (simp only [List.length_drop, List.length_take]; rfl)) ?_; (with_reducible refine (kakugyolaw17_values.calls  false _ A3.out).mono ?_); rintro e w33 ⟨rfl, hb⟩; refine ⟨_, rfl, ?_⟩; have n0_ := Aside0.mk (below_step (by repeat (first | (with_reducible first | exact HB.out | apply below_alloc | apply pw_below_drewN | apply below_drew1) | exact HB.out)) hb); clear HB; have HB := n0_; clear n0_; (try clear hb); (try clear hb2); (try clear hk); (try clear hi)))
    go_ret
    exact ⟨by first | rfl | (simp [errW_none, errW_some] <;> rfl) | (simp [*, errW_none, errW_some] <;> rfl) | (simp [*, errW_none, errW_some]; generalize ByteArray.toList _ = q_; cases q_ <;> rfl), by repeat (first | (with_reducible first | exact HB.out | apply below_alloc | apply pw_below_drewN | apply below_drew1) | exact HB.out)⟩

/-- THE ONE PURE STATEMENT of kakugyolaw17_ValueKinds: yours. -/
def kakugyolaw17_ValueKinds.Pure : Prop := ∀ (a0 : Int) (a1 : Int), (Lit.int .i64 a0).wf = true → (Lit.int .i64 a1).wf = true → ∃ k, kakugyolaw17_ValueKinds.f k a0 a1 = some true
theorem kakugyolaw17_ValueKinds.walk (P : kakugyolaw17_ValueKinds.Pure) (a0 : Int) (a1 : Int) (w : World) (w0 : (Lit.int .i64 a0).wf = true) (w1 : (Lit.int .i64 a1).wf = true) :
    Calls Try.prog 3 #[.int .i64 a0, .int .i64 a1] w fun e w' => e = .returned (.bool true) ∧ Below w.heap.size w w' := by
  obtain ⟨k, h⟩ := P a0 a1 w0 w1
  refine (kakugyolaw17_ValueKinds.calls k a0 a1 true w h).mono ?_
  rintro e w' ⟨rfl, hd⟩
  exact ⟨rfl, hd⟩

end Go.Proofs.Ytmoeodcmfjnihab.Pa
