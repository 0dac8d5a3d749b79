-- Printed by a program of this session: the kit's printer, with contracts of this session's own among its functions.
import Derived.Test.YtmoeodcmfjnihabPax0
import Derived.Test.YtmoeodcmfjnihabPax1
import Derived.Test.YtmoeodcmfjnihabPax2
import Derived.Test.YtmoeodcmfjnihabPax3
import Derived.Test.YtmoeodcmfjnihabPax4
namespace Go.Proofs.Ytmoeodcmfjnihab.Pa
open Go.RowKit Go.Proofs.YtmoeodcmfjnihabW.PrintWords Go.Proofs.YtmoeodcmfjnihabW.PrintLast Go.Proofs.YtmoeodcmfjnihabW.PrintMore
attribute [local go_sem] max2_int min2_int max_two min_two max_three min_three max_four min_four   -- for this text's walks alone
set_option linter.unusedVariables false
set_option linter.unusedSimpArgs false

attribute [local go_sem high] eqA38
/-! ### kakugyolaw07_names: function 20 -/
def kakugyolaw07_names.f (k : Nat)  : Option (Bool) := (move_Parse.f (⟨#[80, 42, 53, 101]⟩ : ByteArray)).bind fun bt134 => ((move_Text.f k 60 59 0 false).bind fun t140 => (if t140.toList = ([55, 103, 55, 102] : List UInt8) then (if bt134.2.2.2.2 = 0 then (if (bt134.1 == 0 && (bt134.2.1 == 40 && (bt134.2.2.1 == 1 && (!bt134.2.2.2.1)))) = true then ((move_Square.f k 80).bind fun t141 => (some (t141.toList == ([57, 105] : List UInt8)))) else (some false)) else (some false)) else (some false)))
theorem kakugyolaw07_names.mono : ∀ k, LeO (kakugyolaw07_names.f k ) (kakugyolaw07_names.f (k + 1) ) := by
  intro  k
  unfold kakugyolaw07_names.f
  repeat' first
      | (with_reducible exact move_Square.mono _ _)
      | (with_reducible exact move_Text.mono _ _ _ _ _)
      | (with_reducible exact LeO.refl _)
      | (with_reducible exact LeO.none _)
      | (with_reducible refine LeO.ite ?_ ?_)
      | (with_reducible refine LeO.bind ?_ (fun _ => ?_))
      | exact move_Square.mono _ _
      | exact move_Text.mono _ _ _ _ _
      | exact LeO.none _
      | refine LeO.ite ?_ ?_
      | refine LeO.bind ?_ (fun _ => ?_)
set_option maxHeartbeats 8000000 in
set_option maxRecDepth 100000 in
theorem kakugyolaw07_names.calls (k : Nat)  (r : Bool) (w : World) (h : kakugyolaw07_names.f k  = some r) :
    Calls Try.prog 20 #[] w fun e w' => e = .returned (.bool r) ∧ Below w.heap.size w w' := by
  have hu38 := Try.underlying38
  have HB := Aside0.mk (Below.refl w.heap.size w)
  have H : ((move_Parse.f (⟨#[80, 42, 53, 101]⟩ : ByteArray)).bind fun bt134 => ((move_Text.f k 60 59 0 false).bind fun t140 => (if t140.toList = ([55, 103, 55, 102] : List UInt8) then (if bt134.2.2.2.2 = 0 then (if (bt134.1 == 0 && (bt134.2.1 == 40 && (bt134.2.2.1 == 1 && (!bt134.2.2.2.1)))) = true then ((move_Square.f k 80).bind fun t141 => (some (t141.toList == ([57, 105] : List UInt8)))) else (some false)) else (some false)) else (some false)))) = some r := h
  clear h
  replace H := Option.bind_eq_some_iff.mp H
  obtain ⟨⟨t134, t135, t136, t137, t138⟩, A10, H⟩ := H
  replace H : ((move_Text.f k 60 59 0 false).bind fun t140 => (if t140.toList = ([55, 103, 55, 102] : List UInt8) then (if t138 = 0 then (if (t134 == 0 && (t135 == 40 && (t136 == 1 && (!t137)))) = true then ((move_Square.f k 80).bind fun t141 => (some (t141.toList == ([57, 105] : List UInt8)))) else (some false)) else (some false)) else (some false))) = some r := H
  have A1 := Aside0.mk A10
  clear A10
  replace H := Option.bind_eq_some_iff.mp H
  obtain ⟨t140, A20, H⟩ := H
  replace H : (if t140.toList = ([55, 103, 55, 102] : List UInt8) then (if t138 = 0 then (if (t134 == 0 && (t135 == 40 && (t136 == 1 && (!t137)))) = true then ((move_Square.f k 80).bind fun t141 => (some (t141.toList == ([57, 105] : List UInt8)))) else (some false)) else (some false)) else (some false)) = some r := H
  have A2 := Aside0.mk A20
  clear A20
  by_cases c3 : t140.toList = ([55, 103, 55, 102] : List UInt8)
  · rw [if_pos c3] at H
    have c3b0 : (t140.toList == ([55, 103, 55, 102] : List UInt8)) = true := beq_iff_eq.mpr c3
    have c3b1 : (t140.toList != ([55, 103, 55, 102] : List UInt8)) = false := bne_eq_false_iff_eq.mpr c3
    clear c3
    by_cases c4 : t138 = 0
    · rw [if_pos c4] at H
      have c4b0 : (t138 == 0) = true := beq_iff_eq.mpr c4
      have c4b1 : (t138 != 0) = false := bne_eq_false_iff_eq.mpr c4
      clear c4
      by_cases c5 : (t134 == 0 && (t135 == 40 && (t136 == 1 && (!t137)))) = true
      · rw [if_pos c5] at H
        have c5b0 : (t134 == 0 && (t135 == 40 && (t136 == 1 && (!t137)))) = true := c5
        (try (have c5b1 : decide (t134 = 0 && (t135 == 40 && (t136 == 1 && (!t137)))) = true := by simpa using c5))
        (try (have c5b2 : (t134 == 0 && (t135 == 40 && (t136 == 1 && (!t137)))) = true := by simpa using c5))
        clear c5
        replace H := Option.bind_eq_some_iff.mp H
        obtain ⟨t141, A60, H⟩ := H
        replace H : (some (t141.toList == ([57, 105] : List UInt8))) = some r := H
        have A6 := Aside0.mk A60
        clear A60
        obtain rfl := Option.some.inj H
        go_enter Try.func20, Try.ntmps20
        go_wp2_with (first | ((with_reducible refine gate_callee (f := 25) rfl ?_); refine goesL_ (some 4) rfl rfl Try.func25 (by kernel_rfl) rfl #[.string (⟨#[80, 42, 53, 101]⟩ : ByteArray)] rfl (by (try simp only [List.map_toArray, List.map_cons, List.map_nil]); first | done | rfl | (simp only [List.length_drop, List.length_take]; rfl)) ?_; (with_reducible refine (move_Parse.calls (⟨#[80, 42, 53, 101]⟩ : ByteArray) t134 t135 t136 t137 t138 _ A1.out).mono ?_); rintro e w7 ⟨rfl, hb⟩; refine ⟨_, rfl, ?_⟩; have n0_ := Aside0.mk (below_step (by repeat (first | (with_reducible first | exact HB.out | apply below_alloc | apply pw_below_drewN | apply below_drew1) | exact HB.out)) hb); clear HB; have HB := n0_; clear n0_; (try clear hb); (try clear hb2); (try clear hk); (try clear hi)) | ((with_reducible refine gate_dst (N := 1) rfl ?_); refine box_event ?hg (N := 1) ?hd (cs := #[.int .i64 0, .int .i64 0, .int .i64 0, .bool false]) (t := 38) ?hr ?_; (case hd => rfl); (case hg => rfl); (case hr => first | (go_simp; done) | (go_simp; rfl)); intro gb139 hg w8 hbox hb; have n0_ := Aside0.mk (below_step (by repeat (first | (with_reducible first | exact HB.out | apply below_alloc | apply pw_below_drewN | apply below_drew1) | exact HB.out)) hb); have n1_ := Aside0.mk (hbox); have n2_ := Aside0.mk ((by rw [hg]; exact (below_size (by repeat (first | (with_reducible first | exact HB.out | apply below_alloc | apply pw_below_drewN | apply below_drew1) | exact HB.out))) : w.heap.size ≤ gb139)); have n3_ := Aside0.mk ((by rw [hg]; exact (below_size (by repeat (first | (with_reducible first | exact HB.out | apply below_alloc | apply pw_below_drewN | apply below_drew1) | exact HB.out))) : w.heap.size ≤ gb139)); clear HB; have HB := n0_; have BK139 := n1_; have GW139 := n2_; have GE139 := n3_; clear n0_ n1_ n2_ n3_; clear hb hbox hg; have hcz9_0 : w8.cell? ⟨gb139, 0, none⟩ = some (.int .i64 0) := (blk_cell BK139.out 0).trans rfl; have hcz9_1 : w8.cell? ⟨gb139, 1, none⟩ = some (.int .i64 0) := (blk_cell BK139.out 1).trans rfl; have hcz9_2 : w8.cell? ⟨gb139, 2, none⟩ = some (.int .i64 0) := (blk_cell BK139.out 2).trans rfl; have hcz9_3 : w8.cell? ⟨gb139, 3, none⟩ = some (.bool false) := (blk_cell BK139.out 3).trans rfl; have hfz9_0 := blk_frozen BK139.out 0; have hfz9_1 := blk_frozen BK139.out 1; have hfz9_2 := blk_frozen BK139.out 2; have hfz9_3 := blk_frozen BK139.out 3) | ((with_reducible refine gate_callee (f := 21) rfl ?_); refine goesL_ (some 8) rfl rfl Try.func21 (by kernel_rfl) rfl #[.agg #[.int .i64 60, .int .i64 59, .int .i64 0, .bool false]] rfl (by (try simp only [List.map_toArray, List.map_cons, List.map_nil]); first | done | rfl | (simp only [List.length_drop, List.length_take]; rfl)) ?_; (with_reducible refine (move_Text.calls k 60 59 0 false t140 _ A2.out).mono ?_); rintro e w10 ⟨rfl, hb⟩; refine ⟨_, rfl, ?_⟩; have n0_ := Aside0.mk (blk_below (g := gb139) (o := .cells #[.int .i64 t134, .int .i64 t135, .int .i64 t136, .bool t137] 38 (0, 0)) (by (with_reducible repeat (first | refine blk_drewN ?_ _ | refine blk_drew ?_ | refine blk_alloc ?_ _)); refine blk_put (cs := #[.int .i64 t134, .int .i64 t135, .int .i64 t136, .bool false]) ?_ 3 _ (by first | rfl | (simp [*]; done)); (with_reducible repeat (first | refine blk_drewN ?_ _ | refine blk_drew ?_ | refine blk_alloc ?_ _)); refine blk_put (cs := #[.int .i64 t134, .int .i64 t135, .int .i64 0, .bool false]) ?_ 2 _ (by first | rfl | (simp [*]; done)); (with_reducible repeat (first | refine blk_drewN ?_ _ | refine blk_drew ?_ | refine blk_alloc ?_ _)); refine blk_put (cs := #[.int .i64 t134, .int .i64 0, .int .i64 0, .bool false]) ?_ 1 _ (by first | rfl | (simp [*]; done)); (with_reducible repeat (first | refine blk_drewN ?_ _ | refine blk_drew ?_ | refine blk_alloc ?_ _)); refine blk_put (cs := #[.int .i64 0, .int .i64 0, .int .i64 0, .bool false]) ?_ 0 _ (by first | rfl | (simp [*]; done)); (with_reducible repeat (first | refine blk_drewN ?_ _ | refine blk_drew ?_ | refine blk_alloc ?_ _)); exact BK139.out) hb); have n1_ := Aside0.mk (below_step (by repeat (first | (with_reducible first | exact HB.out | apply below_alloc | apply pw_below_drewN | apply below_drew1 | refine below_set ?_ GE139.out) | exact HB.out)) hb); clear BK139; clear HB; have BK139 := n0_; have HB := n1_; clear n0_ n1_; (try clear hb); (try clear hb2); (try clear hk); (try clear hi); have hcz11_0 : w10.cell? ⟨gb139, 0, none⟩ = some (.int .i64 t134) := (blk_cell BK139.out 0).trans rfl; have hcz11_1 : w10.cell? ⟨gb139, 1, none⟩ = some (.int .i64 t135) := (blk_cell BK139.out 1).trans rfl; have hcz11_2 : w10.cell? ⟨gb139, 2, none⟩ = some (.int .i64 t136) := (blk_cell BK139.out 2).trans rfl; have hcz11_3 : w10.cell? ⟨gb139, 3, none⟩ = some (.bool t137) := (blk_cell BK139.out 3).trans rfl; have hfz11_0 := blk_frozen BK139.out 0; have hfz11_1 := blk_frozen BK139.out 1; have hfz11_2 := blk_frozen BK139.out 2; have hfz11_3 := blk_frozen BK139.out 3) | (go_at_call 27; (with_reducible refine (move_Square.calls k 80 t141 _ A6.out).mono ?_); rintro e w12 ⟨rfl, hb⟩; have n0_ := Aside0.mk (blk_below (g := gb139) (o := .cells #[.int .i64 t134, .int .i64 t135, .int .i64 t136, .bool t137] 38 (0, 0)) (by (with_reducible repeat (first | refine blk_drewN ?_ _ | refine blk_drew ?_ | refine blk_alloc ?_ _)); exact BK139.out) hb); have n1_ := Aside0.mk (below_step (by repeat (first | (with_reducible first | exact HB.out | apply below_alloc | apply pw_below_drewN | apply below_drew1 | refine below_set ?_ GE139.out) | exact HB.out)) hb); clear BK139; clear HB; have BK139 := n0_; have HB := n1_; clear n0_ n1_; (try clear hb); (try clear hb2); (try clear hk); (try clear hi)))
        go_ret
        exact ⟨by first | rfl | (simp [errW_none, errW_some] <;> rfl) | (simp [*, errW_none, errW_some] <;> rfl) | (simp [*, errW_none, errW_some]; generalize ByteArray.toList _ = q_; cases q_ <;> rfl), by repeat (first | (with_reducible first | exact HB.out | apply below_alloc | apply pw_below_drewN | apply below_drew1 | refine below_set ?_ GE139.out) | exact HB.out)⟩
      · rw [if_neg c5] at H
        have c5b0 : (t134 == 0 && (t135 == 40 && (t136 == 1 && (!t137)))) = false := by simpa using c5
        (try (have c5b1 : decide (t134 = 0 && (t135 == 40 && (t136 == 1 && (!t137)))) = false := by simpa using c5))
        (try (have c5b2 : (t134 == 0 && (t135 == 40 && (t136 == 1 && (!t137)))) = false := by simpa using c5))
        (try (have c5b3 : ¬ (t134 = 0 && (t135 == 40 && (t136 == 1 && (!t137)))) := by simpa using c5))
        clear c5
        obtain rfl := Option.some.inj H
        go_enter Try.func20, Try.ntmps20
        go_wp2_with (first | ((with_reducible refine gate_callee (f := 25) rfl ?_); refine goesL_ (some 4) rfl rfl Try.func25 (by kernel_rfl) rfl #[.string (⟨#[80, 42, 53, 101]⟩ : ByteArray)] rfl (by (try simp only [List.map_toArray, List.map_cons, List.map_nil]); first | done | rfl | (simp only [List.length_drop, List.length_take]; rfl)) ?_; (with_reducible refine (move_Parse.calls (⟨#[80, 42, 53, 101]⟩ : ByteArray) t134 t135 t136 t137 t138 _ A1.out).mono ?_); rintro e w13 ⟨rfl, hb⟩; refine ⟨_, rfl, ?_⟩; have n0_ := Aside0.mk (below_step (by repeat (first | (with_reducible first | exact HB.out | apply below_alloc | apply pw_below_drewN | apply below_drew1) | exact HB.out)) hb); clear HB; have HB := n0_; clear n0_; (try clear hb); (try clear hb2); (try clear hk); (try clear hi)) | ((with_reducible refine gate_dst (N := 1) rfl ?_); refine box_event ?hg (N := 1) ?hd (cs := #[.int .i64 0, .int .i64 0, .int .i64 0, .bool false]) (t := 38) ?hr ?_; (case hd => rfl); (case hg => rfl); (case hr => first | (go_simp; done) | (go_simp; rfl)); intro gb139 hg w14 hbox hb; have n0_ := Aside0.mk (below_step (by repeat (first | (with_reducible first | exact HB.out | apply below_alloc | apply pw_below_drewN | apply below_drew1) | exact HB.out)) hb); have n1_ := Aside0.mk (hbox); have n2_ := Aside0.mk ((by rw [hg]; exact (below_size (by repeat (first | (with_reducible first | exact HB.out | apply below_alloc | apply pw_below_drewN | apply below_drew1) | exact HB.out))) : w.heap.size ≤ gb139)); have n3_ := Aside0.mk ((by rw [hg]; exact (below_size (by repeat (first | (with_reducible first | exact HB.out | apply below_alloc | apply pw_below_drewN | apply below_drew1) | exact HB.out))) : w.heap.size ≤ gb139)); clear HB; have HB := n0_; have BK139 := n1_; have GW139 := n2_; have GE139 := n3_; clear n0_ n1_ n2_ n3_; clear hb hbox hg; have hcz15_0 : w14.cell? ⟨gb139, 0, none⟩ = some (.int .i64 0) := (blk_cell BK139.out 0).trans rfl; have hcz15_1 : w14.cell? ⟨gb139, 1, none⟩ = some (.int .i64 0) := (blk_cell BK139.out 1).trans rfl; have hcz15_2 : w14.cell? ⟨gb139, 2, none⟩ = some (.int .i64 0) := (blk_cell BK139.out 2).trans rfl; have hcz15_3 : w14.cell? ⟨gb139, 3, none⟩ = some (.bool false) := (blk_cell BK139.out 3).trans rfl; have hfz15_0 := blk_frozen BK139.out 0; have hfz15_1 := blk_frozen BK139.out 1; have hfz15_2 := blk_frozen BK139.out 2; have hfz15_3 := blk_frozen BK139.out 3) | ((with_reducible refine gate_callee (f := 21) rfl ?_); refine goesL_ (some 8) rfl rfl Try.func21 (by kernel_rfl) rfl #[.agg #[.int .i64 60, .int .i64 59, .int .i64 0, .bool false]] rfl (by (try simp only [List.map_toArray, List.map_cons, List.map_nil]); first | done | rfl | (simp only [List.length_drop, List.length_take]; rfl)) ?_; (with_reducible refine (move_Text.calls k 60 59 0 false t140 _ A2.out).mono ?_); rintro e w16 ⟨rfl, hb⟩; refine ⟨_, rfl, ?_⟩; have n0_ := Aside0.mk (blk_below (g := gb139) (o := .cells #[.int .i64 t134, .int .i64 t135, .int .i64 t136, .bool t137] 38 (0, 0)) (by (with_reducible repeat (first | refine blk_drewN ?_ _ | refine blk_drew ?_ | refine blk_alloc ?_ _)); refine blk_put (cs := #[.int .i64 t134, .int .i64 t135, .int .i64 t136, .bool false]) ?_ 3 _ (by first | rfl | (simp [*]; done)); (with_reducible repeat (first | refine blk_drewN ?_ _ | refine blk_drew ?_ | refine blk_alloc ?_ _)); refine blk_put (cs := #[.int .i64 t134, .int .i64 t135, .int .i64 0, .bool false]) ?_ 2 _ (by first | rfl | (simp [*]; done)); (with_reducible repeat (first | refine blk_drewN ?_ _ | refine blk_drew ?_ | refine blk_alloc ?_ _)); refine blk_put (cs := #[.int .i64 t134, .int .i64 0, .int .i64 0, .bool false]) ?_ 1 _ (by first | rfl | (simp [*]; done)); (with_reducible repeat (first | refine blk_drewN ?_ _ | refine blk_drew ?_ | refine blk_alloc ?_ _)); refine blk_put (cs := #[.int .i64 0, .int .i64 0, .int .i64 0, .bool false]) ?_ 0 _ (by first | rfl | (simp [*]; done)); (with_reducible repeat (first | refine blk_drewN ?_ _ | refine blk_drew ?_ | refine blk_alloc ?_ _)); exact BK139.out) hb); have n1_ := Aside0.mk (below_step (by repeat (first | (with_reducible first | exact HB.out | apply below_alloc | apply pw_below_drewN | apply below_drew1 | refine below_set ?_ GE139.out) | exact HB.out)) hb); clear BK139; clear HB; have BK139 := n0_; have HB := n1_; clear n0_ n1_; (try clear hb); (try clear hb2); (try clear hk); (try clear hi); have hcz17_0 : w16.cell? ⟨gb139, 0, none⟩ = some (.int .i64 t134) := (blk_cell BK139.out 0).trans rfl; have hcz17_1 : w16.cell? ⟨gb139, 1, none⟩ = some (.int .i64 t135) := (blk_cell BK139.out 1).trans rfl; have hcz17_2 : w16.cell? ⟨gb139, 2, none⟩ = some (.int .i64 t136) := (blk_cell BK139.out 2).trans rfl; have hcz17_3 : w16.cell? ⟨gb139, 3, none⟩ = some (.bool t137) := (blk_cell BK139.out 3).trans rfl; have hfz17_0 := blk_frozen BK139.out 0; have hfz17_1 := blk_frozen BK139.out 1; have hfz17_2 := blk_frozen BK139.out 2; have hfz17_3 := blk_frozen BK139.out 3))
        go_ret
        exact ⟨by first | rfl | (simp [errW_none, errW_some] <;> rfl) | (simp [*, errW_none, errW_some] <;> rfl) | (simp [*, errW_none, errW_some]; generalize ByteArray.toList _ = q_; cases q_ <;> rfl), by repeat (first | (with_reducible first | exact HB.out | apply below_alloc | apply pw_below_drewN | apply below_drew1 | refine below_set ?_ GE139.out) | exact HB.out)⟩
    · rw [if_neg c4] at H
      have c4b0 : (t138 == 0) = false := beq_eq_false_iff_ne.mpr c4
      have c4b1 : (t138 != 0) = true := bne_iff_ne.mpr c4
      obtain rfl := Option.some.inj H
      go_enter Try.func20, Try.ntmps20
      go_wp2_with (first | ((with_reducible refine gate_callee (f := 25) rfl ?_); refine goesL_ (some 4) rfl rfl Try.func25 (by kernel_rfl) rfl #[.string (⟨#[80, 42, 53, 101]⟩ : ByteArray)] rfl (by (try simp only [List.map_toArray, List.map_cons, List.map_nil]); first | done | rfl | (simp only [List.length_drop, List.length_take]; rfl)) ?_; (with_reducible refine (move_Parse.calls (⟨#[80, 42, 53, 101]⟩ : ByteArray) t134 t135 t136 t137 t138 _ A1.out).mono ?_); rintro e w18 ⟨rfl, hb⟩; refine ⟨_, rfl, ?_⟩; have n0_ := Aside0.mk (below_step (by repeat (first | (with_reducible first | exact HB.out | apply below_alloc | apply pw_below_drewN | apply below_drew1) | exact HB.out)) hb); clear HB; have HB := n0_; clear n0_; (try clear hb); (try clear hb2); (try clear hk); (try clear hi)) | ((with_reducible refine gate_dst (N := 1) rfl ?_); refine box_event ?hg (N := 1) ?hd (cs := #[.int .i64 0, .int .i64 0, .int .i64 0, .bool false]) (t := 38) ?hr ?_; (case hd => rfl); (case hg => rfl); (case hr => first | (go_simp; done) | (go_simp; rfl)); intro gb139 hg w19 hbox hb; have n0_ := Aside0.mk (below_step (by repeat (first | (with_reducible first | exact HB.out | apply below_alloc | apply pw_below_drewN | apply below_drew1) | exact HB.out)) hb); have n1_ := Aside0.mk (hbox); have n2_ := Aside0.mk ((by rw [hg]; exact (below_size (by repeat (first | (with_reducible first | exact HB.out | apply below_alloc | apply pw_below_drewN | apply below_drew1) | exact HB.out))) : w.heap.size ≤ gb139)); have n3_ := Aside0.mk ((by rw [hg]; exact (below_size (by repeat (first | (with_reducible first | exact HB.out | apply below_alloc | apply pw_below_drewN | apply below_drew1) | exact HB.out))) : w.heap.size ≤ gb139)); clear HB; have HB := n0_; have BK139 := n1_; have GW139 := n2_; have GE139 := n3_; clear n0_ n1_ n2_ n3_; clear hb hbox hg; have hcz20_0 : w19.cell? ⟨gb139, 0, none⟩ = some (.int .i64 0) := (blk_cell BK139.out 0).trans rfl; have hcz20_1 : w19.cell? ⟨gb139, 1, none⟩ = some (.int .i64 0) := (blk_cell BK139.out 1).trans rfl; have hcz20_2 : w19.cell? ⟨gb139, 2, none⟩ = some (.int .i64 0) := (blk_cell BK139.out 2).trans rfl; have hcz20_3 : w19.cell? ⟨gb139, 3, none⟩ = some (.bool false) := (blk_cell BK139.out 3).trans rfl; have hfz20_0 := blk_frozen BK139.out 0; have hfz20_1 := blk_frozen BK139.out 1; have hfz20_2 := blk_frozen BK139.out 2; have hfz20_3 := blk_frozen BK139.out 3) | ((with_reducible refine gate_callee (f := 21) rfl ?_); refine goesL_ (some 8) rfl rfl Try.func21 (by kernel_rfl) rfl #[.agg #[.int .i64 60, .int .i64 59, .int .i64 0, .bool false]] rfl (by (try simp only [List.map_toArray, List.map_cons, List.map_nil]); first | done | rfl | (simp only [List.length_drop, List.length_take]; rfl)) ?_; (with_reducible refine (move_Text.calls k 60 59 0 false t140 _ A2.out).mono ?_); rintro e w21 ⟨rfl, hb⟩; refine ⟨_, rfl, ?_⟩; have n0_ := Aside0.mk (blk_below (g := gb139) (o := .cells #[.int .i64 t134, .int .i64 t135, .int .i64 t136, .bool t137] 38 (0, 0)) (by (with_reducible repeat (first | refine blk_drewN ?_ _ | refine blk_drew ?_ | refine blk_alloc ?_ _)); refine blk_put (cs := #[.int .i64 t134, .int .i64 t135, .int .i64 t136, .bool false]) ?_ 3 _ (by first | rfl | (simp [*]; done)); (with_reducible repeat (first | refine blk_drewN ?_ _ | refine blk_drew ?_ | refine blk_alloc ?_ _)); refine blk_put (cs := #[.int .i64 t134, .int .i64 t135, .int .i64 0, .bool false]) ?_ 2 _ (by first | rfl | (simp [*]; done)); (with_reducible repeat (first | refine blk_drewN ?_ _ | refine blk_drew ?_ | refine blk_alloc ?_ _)); refine blk_put (cs := #[.int .i64 t134, .int .i64 0, .int .i64 0, .bool false]) ?_ 1 _ (by first | rfl | (simp [*]; done)); (with_reducible repeat (first | refine blk_drewN ?_ _ | refine blk_drew ?_ | refine blk_alloc ?_ _)); refine blk_put (cs := #[.int .i64 0, .int .i64 0, .int .i64 0, .bool false]) ?_ 0 _ (by first | rfl | (simp [*]; done)); (with_reducible repeat (first | refine blk_drewN ?_ _ | refine blk_drew ?_ | refine blk_alloc ?_ _)); exact BK139.out) hb); have n1_ := Aside0.mk (below_step (by repeat (first | (with_reducible first | exact HB.out | apply below_alloc | apply pw_below_drewN | apply below_drew1 | refine below_set ?_ GE139.out) | exact HB.out)) hb); clear BK139; clear HB; have BK139 := n0_; have HB := n1_; clear n0_ n1_; (try clear hb); (try clear hb2); (try clear hk); (try clear hi)))
      go_ret
      exact ⟨by first | rfl | (simp [errW_none, errW_some] <;> rfl) | (simp [*, errW_none, errW_some] <;> rfl) | (simp [*, errW_none, errW_some]; generalize ByteArray.toList _ = q_; cases q_ <;> rfl), by repeat (first | (with_reducible first | exact HB.out | apply below_alloc | apply pw_below_drewN | apply below_drew1 | refine below_set ?_ GE139.out) | exact HB.out)⟩
  · rw [if_neg c3] at H
    have c3b0 : (t140.toList == ([55, 103, 55, 102] : List UInt8)) = false := beq_eq_false_iff_ne.mpr c3
    have c3b1 : (t140.toList != ([55, 103, 55, 102] : List UInt8)) = true := bne_iff_ne.mpr c3
    obtain rfl := Option.some.inj H
    go_enter Try.func20, Try.ntmps20
    go_wp2_with (first | ((with_reducible refine gate_callee (f := 25) rfl ?_); refine goesL_ (some 4) rfl rfl Try.func25 (by kernel_rfl) rfl #[.string (⟨#[80, 42, 53, 101]⟩ : ByteArray)] rfl (by (try simp only [List.map_toArray, List.map_cons, List.map_nil]); first | done | rfl | (simp only [List.length_drop, List.length_take]; rfl)) ?_; (with_reducible refine (move_Parse.calls (⟨#[80, 42, 53, 101]⟩ : ByteArray) t134 t135 t136 t137 t138 _ A1.out).mono ?_); rintro e w22 ⟨rfl, hb⟩; refine ⟨_, rfl, ?_⟩; have n0_ := Aside0.mk (below_step (by repeat (first | (with_reducible first | exact HB.out | apply below_alloc | apply pw_below_drewN | apply below_drew1) | exact HB.out)) hb); clear HB; have HB := n0_; clear n0_; (try clear hb); (try clear hb2); (try clear hk); (try clear hi)) | ((with_reducible refine gate_dst (N := 1) rfl ?_); refine box_event ?hg (N := 1) ?hd (cs := #[.int .i64 0, .int .i64 0, .int .i64 0, .bool false]) (t := 38) ?hr ?_; (case hd => rfl); (case hg => rfl); (case hr => first | (go_simp; done) | (go_simp; rfl)); intro gb139 hg w23 hbox hb; have n0_ := Aside0.mk (below_step (by repeat (first | (with_reducible first | exact HB.out | apply below_alloc | apply pw_below_drewN | apply below_drew1) | exact HB.out)) hb); have n1_ := Aside0.mk (hbox); have n2_ := Aside0.mk ((by rw [hg]; exact (below_size (by repeat (first | (with_reducible first | exact HB.out | apply below_alloc | apply pw_below_drewN | apply below_drew1) | exact HB.out))) : w.heap.size ≤ gb139)); have n3_ := Aside0.mk ((by rw [hg]; exact (below_size (by repeat (first | (with_reducible first | exact HB.out | apply below_alloc | apply pw_below_drewN | apply below_drew1) | exact HB.out))) : w.heap.size ≤ gb139)); clear HB; have HB := n0_; have BK139 := n1_; have GW139 := n2_; have GE139 := n3_; clear n0_ n1_ n2_ n3_; clear hb hbox hg; have hcz24_0 : w23.cell? ⟨gb139, 0, none⟩ = some (.int .i64 0) := (blk_cell BK139.out 0).trans rfl; have hcz24_1 : w23.cell? ⟨gb139, 1, none⟩ = some (.int .i64 0) := (blk_cell BK139.out 1).trans rfl; have hcz24_2 : w23.cell? ⟨gb139, 2, none⟩ = some (.int .i64 0) := (blk_cell BK139.out 2).trans rfl; have hcz24_3 : w23.cell? ⟨gb139, 3, none⟩ = some (.bool false) := (blk_cell BK139.out 3).trans rfl; have hfz24_0 := blk_frozen BK139.out 0; have hfz24_1 := blk_frozen BK139.out 1; have hfz24_2 := blk_frozen BK139.out 2; have hfz24_3 := blk_frozen BK139.out 3) | ((with_reducible refine gate_callee (f := 21) rfl ?_); refine goesL_ (some 8) rfl rfl Try.func21 (by kernel_rfl) rfl #[.agg #[.int .i64 60, .int .i64 59, .int .i64 0, .bool false]] rfl (by (try simp only [List.map_toArray, List.map_cons, List.map_nil]); first | done | rfl | (simp only [List.length_drop, List.length_take]; rfl)) ?_; (with_reducible refine (move_Text.calls k 60 59 0 false t140 _ A2.out).mono ?_); rintro e w25 ⟨rfl, hb⟩; refine ⟨_, rfl, ?_⟩; have n0_ := Aside0.mk (blk_below (g := gb139) (o := .cells #[.int .i64 t134, .int .i64 t135, .int .i64 t136, .bool t137] 38 (0, 0)) (by (with_reducible repeat (first | refine blk_drewN ?_ _ | refine blk_drew ?_ | refine blk_alloc ?_ _)); refine blk_put (cs := #[.int .i64 t134, .int .i64 t135, .int .i64 t136, .bool false]) ?_ 3 _ (by first | rfl | (simp [*]; done)); (with_reducible repeat (first | refine blk_drewN ?_ _ | refine blk_drew ?_ | refine blk_alloc ?_ _)); refine blk_put (cs := #[.int .i64 t134, .int .i64 t135, .int .i64 0, .bool false]) ?_ 2 _ (by first | rfl | (simp [*]; done)); (with_reducible repeat (first | refine blk_drewN ?_ _ | refine blk_drew ?_ | refine blk_alloc ?_ _)); refine blk_put (cs := #[.int .i64 t134, .int .i64 0, .int .i64 0, .bool false]) ?_ 1 _ (by first | rfl | (simp [*]; done)); (with_reducible repeat (first | refine blk_drewN ?_ _ | refine blk_drew ?_ | refine blk_alloc ?_ _)); refine blk_put (cs := #[.int .i64 0, .int .i64 0, .int .i64 0, .bool false]) ?_ 0 _ (by first | rfl | (simp [*]; done)); (with_reducible repeat (first | refine blk_drewN ?_ _ | refine blk_drew ?_ | refine blk_alloc ?_ _)); exact BK139.out) hb); have n1_ := Aside0.mk (below_step (by repeat (first | (with_reducible first | exact HB.out | apply below_alloc | apply pw_below_drewN | apply below_drew1 | refine below_set ?_ GE139.out) | exact HB.out)) hb); clear BK139; clear HB; have BK139 := n0_; have HB := n1_; clear n0_ n1_; (try clear hb); (try clear hb2); (try clear hk); (try clear hi)))
    go_ret
    exact ⟨by first | rfl | (simp [errW_none, errW_some] <;> rfl) | (simp [*, errW_none, errW_some] <;> rfl) | (simp [*, errW_none, errW_some]; generalize ByteArray.toList _ = q_; cases q_ <;> rfl), by repeat (first | (with_reducible first | exact HB.out | apply below_alloc | apply pw_below_drewN | apply below_drew1 | refine below_set ?_ GE139.out) | exact HB.out)⟩

/-! ### kakugyoref07_Check: function 24 -/
mutual
def kakugyoref07_Check.j0 : Nat → Bool → Int → Int → Int → Bool → Option (Int)
  | 0, _, _, _, _, _ => none
  | k + 1, x10, x143000, x143001, x143002, x143003 => if x10 = true then (some 1) else (if x143002 = 0 then (if x143000 < 0 then (kakugyoref07_Check.j1 k true x143000 x143001 x143002 x143003) else (kakugyoref07_Check.j1 k (decide (x143000 > 80)) x143000 x143001 x143002 x143003)) else (if x143002 < 1 then (some 70) else (if x143002 > 7 then (some 70) else (if x143000 = 0 then (if x143003 = true then (some 70) else (some 0)) else (some 70)))))
def kakugyoref07_Check.j1 : Nat → Bool → Int → Int → Int → Bool → Option (Int)
  | 0, _, _, _, _, _ => none
  | k + 1, x38, x143000, x143001, x143002, x143003 => if x38 = true then (some 1) else (if x143000 = x143001 then (some 70) else (some 0))
end
def kakugyoref07_Check.f (k : Nat) (a0_0 : Int) (a0_1 : Int) (a0_2 : Int) (a0_3 : Bool) : Option (Int) := if a0_1 < 0 then (kakugyoref07_Check.j0 k true a0_0 a0_1 a0_2 a0_3) else (kakugyoref07_Check.j0 k (decide (a0_1 > 80)) a0_0 a0_1 a0_2 a0_3)
theorem kakugyoref07_Check.mono_l : ∀ k, (∀ y0 y1 y2 y3 y4, LeO (kakugyoref07_Check.j0 k y0 y1 y2 y3 y4) (kakugyoref07_Check.j0 (k + 1) y0 y1 y2 y3 y4)) ∧ (∀ y0 y1 y2 y3 y4, LeO (kakugyoref07_Check.j1 k y0 y1 y2 y3 y4) (kakugyoref07_Check.j1 (k + 1) y0 y1 y2 y3 y4))
  | 0 => ⟨fun _ _ _ _ _ r h => by simp [kakugyoref07_Check.j0] at h, fun _ _ _ _ _ r h => by simp [kakugyoref07_Check.j1] at h⟩
  | k + 1 => by
    obtain ⟨ih0, ih1⟩ := kakugyoref07_Check.mono_l k
    refine ⟨?_, ?_⟩
    · intro y0 y1 y2 y3 y4
      unfold kakugyoref07_Check.j0
      repeat' first
      | (with_reducible exact ih0 _ _ _ _ _)
      | (with_reducible exact ih1 _ _ _ _ _)
      | (with_reducible exact LeO.refl _)
      | (with_reducible exact LeO.none _)
      | (with_reducible refine LeO.ite ?_ ?_)
      | (with_reducible refine LeO.bind ?_ (fun _ => ?_))
      | exact ih0 _ _ _ _ _
      | exact ih1 _ _ _ _ _
      | exact LeO.none _
      | refine LeO.ite ?_ ?_
      | refine LeO.bind ?_ (fun _ => ?_)
    · intro y0 y1 y2 y3 y4
      unfold kakugyoref07_Check.j1
      repeat' first
      | (with_reducible exact ih0 _ _ _ _ _)
      | (with_reducible exact ih1 _ _ _ _ _)
      | (with_reducible exact LeO.refl _)
      | (with_reducible exact LeO.none _)
      | (with_reducible refine LeO.ite ?_ ?_)
      | (with_reducible refine LeO.bind ?_ (fun _ => ?_))
      | exact ih0 _ _ _ _ _
      | exact ih1 _ _ _ _ _
      | exact LeO.none _
      | refine LeO.ite ?_ ?_
      | refine LeO.bind ?_ (fun _ => ?_)
theorem kakugyoref07_Check.mono : ∀ a0 a1 a2 a3 k, LeO (kakugyoref07_Check.f k a0 a1 a2 a3) (kakugyoref07_Check.f (k + 1) a0 a1 a2 a3) := by
  intro a0 a1 a2 a3 k
  obtain ⟨ih0, ih1⟩ := kakugyoref07_Check.mono_l k
  unfold kakugyoref07_Check.f
  repeat' first
      | (with_reducible exact ih0 _ _ _ _ _)
      | (with_reducible exact ih1 _ _ _ _ _)
      | (with_reducible exact LeO.refl _)
      | (with_reducible exact LeO.none _)
      | (with_reducible refine LeO.ite ?_ ?_)
      | (with_reducible refine LeO.bind ?_ (fun _ => ?_))
      | exact ih0 _ _ _ _ _
      | exact ih1 _ _ _ _ _
      | exact LeO.none _
      | refine LeO.ite ?_ ?_
      | refine LeO.bind ?_ (fun _ => ?_)
set_option maxHeartbeats 8000000 in
set_option maxRecDepth 100000 in
theorem kakugyoref07_Check.calls (k : Nat) (a0_0 : Int) (a0_1 : Int) (a0_2 : Int) (a0_3 : Bool) (r : Int) (w : World) (h : kakugyoref07_Check.f k a0_0 a0_1 a0_2 a0_3 = some r) :
    Calls Try.prog 24 #[.agg #[.int .i64 a0_0, .int .i64 a0_1, .int .i64 a0_2, .bool a0_3]] w fun e w' => e = .returned (.int .i64 r) ∧ Below w.heap.size w w' := by
  have hu38 := Try.underlying38
  have HB := Aside0.mk (Below.refl w.heap.size w)
  have H : (if a0_1 < 0 then (kakugyoref07_Check.j0 k true a0_0 a0_1 a0_2 a0_3) else (kakugyoref07_Check.j0 k (decide (a0_1 > 80)) a0_0 a0_1 a0_2 a0_3)) = some r := h
  clear h
  have HC2 := Aside0.mk H
  clear H
  go_enter Try.func24, Try.ntmps24
  go_upto_region 1 with (first | ((with_reducible refine gate_dst (N := 1) rfl ?_); refine box_event ?hg (N := 1) ?hd (cs := #[.int .i64 a0_0, .int .i64 a0_1, .int .i64 a0_2, .bool a0_3]) (t := 38) ?hr ?_; (case hd => rfl); (case hg => rfl); (case hr => first | (go_simp; done) | (go_simp; rfl)); intro gb142 hg w3 hbox hb; have n0_ := Aside0.mk (below_step (by repeat (first | (with_reducible first | exact HB.out | apply below_alloc | apply pw_below_drewN | apply below_drew1) | exact HB.out)) hb); have n1_ := Aside0.mk (hbox); have n2_ := Aside0.mk ((by rw [hg]; exact (below_size (by repeat (first | (with_reducible first | exact HB.out | apply below_alloc | apply pw_below_drewN | apply below_drew1) | exact HB.out))) : w.heap.size ≤ gb142)); have n3_ := Aside0.mk ((by rw [hg]; exact (below_size (by repeat (first | (with_reducible first | exact HB.out | apply below_alloc | apply pw_below_drewN | apply below_drew1) | exact HB.out))) : w.heap.size ≤ gb142)); clear HB; have HB := n0_; have BK142 := n1_; have GW142 := n2_; have GE142 := n3_; clear n0_ n1_ n2_ n3_; clear hb hbox hg))
  (try simp only [Act.put, List.setIfInBounds_toArray, List.set_cons_zero, List.set_cons_succ])
  go_cut [10] (fun v10 wc => ∃ (kq : Nat) (x10_1 : Bool), v10 = .bool x10_1 ∧ Aside0 (kakugyoref07_Check.j0 kq x10_1 a0_0 a0_1 a0_2 a0_3 = some r) ∧ Aside0 (kq ≤ k) ∧ Aside0 (wc.heap[gb142]? = some (.cells #[.int .i64 a0_0, .int .i64 a0_1, .int .i64 a0_2, .bool a0_3] 38 (0, 0))) ∧ Aside0 (Below w.heap.size w wc))
  case first =>
    have H := HC2.out
    clear HC2
    by_cases c4 : a0_1 < 0
    · rw [if_pos c4] at H
      have c4b0 : decide (a0_1 < 0) = true := decide_eq_true c4
      clear c4
      (first | rw [c4b0] | (simp only [i64_w, i32_w]; rw [c4b0]) | skip)
      have H' := Aside0.mk H
      clear H
      have hcz5_0 : w3.cell? ⟨gb142, 0, none⟩ = some (.int .i64 a0_0) := (blk_cell BK142.out 0).trans rfl
      have hcz5_1 : w3.cell? ⟨gb142, 1, none⟩ = some (.int .i64 a0_1) := (blk_cell BK142.out 1).trans rfl
      have hcz5_2 : w3.cell? ⟨gb142, 2, none⟩ = some (.int .i64 a0_2) := (blk_cell BK142.out 2).trans rfl
      have hcz5_3 : w3.cell? ⟨gb142, 3, none⟩ = some (.bool a0_3) := (blk_cell BK142.out 3).trans rfl
      have hfz5_0 := blk_frozen BK142.out 0
      have hfz5_1 := blk_frozen BK142.out 1
      have hfz5_2 := blk_frozen BK142.out 2
      have hfz5_3 := blk_frozen BK142.out 3
      go_wp2
      go_meet
      case rel => exact ⟨_, (true), (by first | rfl | (simp; done) | (simp [*]; done)), H', ⟨by first | omega | exact Nat.le_refl _⟩, ⟨by (with_reducible repeat (first | refine blk_drewN ?_ _ | refine blk_drew ?_ | refine blk_alloc ?_ _)); exact BK142.out⟩, ⟨by repeat (first | (with_reducible first | exact HB.out | apply below_alloc | apply pw_below_drewN | apply below_drew1 | refine below_set ?_ GE142.out) | exact HB.out)⟩⟩
    · rw [if_neg c4] at H
      have c4b0 : decide (a0_1 < 0) = false := decide_eq_false c4
      clear c4
      (first | rw [c4b0] | (simp only [i64_w, i32_w]; rw [c4b0]) | skip)
      have H' := Aside0.mk H
      clear H
      have hcz6_0 : w3.cell? ⟨gb142, 0, none⟩ = some (.int .i64 a0_0) := (blk_cell BK142.out 0).trans rfl
      have hcz6_1 : w3.cell? ⟨gb142, 1, none⟩ = some (.int .i64 a0_1) := (blk_cell BK142.out 1).trans rfl
      have hcz6_2 : w3.cell? ⟨gb142, 2, none⟩ = some (.int .i64 a0_2) := (blk_cell BK142.out 2).trans rfl
      have hcz6_3 : w3.cell? ⟨gb142, 3, none⟩ = some (.bool a0_3) := (blk_cell BK142.out 3).trans rfl
      have hfz6_0 := blk_frozen BK142.out 0
      have hfz6_1 := blk_frozen BK142.out 1
      have hfz6_2 := blk_frozen BK142.out 2
      have hfz6_3 := blk_frozen BK142.out 3
      go_wp2
      go_meet
      case rel => exact ⟨_, (decide (a0_1 > 80)), (by first | rfl | (simp; done) | (simp [*]; done)), H', ⟨by first | omega | exact Nat.le_refl _⟩, ⟨by (with_reducible repeat (first | refine blk_drewN ?_ _ | refine blk_drew ?_ | refine blk_alloc ?_ _)); exact BK142.out⟩, ⟨by repeat (first | (with_reducible first | exact HB.out | apply below_alloc | apply pw_below_drewN | apply below_drew1 | refine below_set ?_ GE142.out) | exact HB.out)⟩⟩
  case rest =>
    clear HC2
    try clear c2
    try clear p2
    try clear c4
    try clear c4b0
    try clear hcz5_0
    try clear hcz5_1
    try clear hcz5_2
    try clear hcz5_3
    try clear hcz6_0
    try clear hcz6_1
    try clear hcz6_2
    try clear hcz6_3
    try clear hfz5_0
    try clear hfz5_1
    try clear hfz5_2
    try clear hfz5_3
    try clear hfz6_0
    try clear hfz6_1
    try clear hfz6_2
    try clear hfz6_3
    obtain ⟨kq, x10_1, rfl, HA, HJ1, BK142, HB⟩ := hcut
    cases kq with
    | zero => exact absurd HA.out (by simp [kakugyoref07_Check.j0])
    | succ kj1 =>
      have H := HA.out
      clear HA
      simp only [kakugyoref07_Check.j0] at H
      by_cases c7 : x10_1 = true
      · subst c7
        have H1 : (some 1) = some r := by rw [if_pos rfl] at H; exact H
        clear H
        have H := H1
        clear H1
        obtain rfl := Option.some.inj H
        go_wp2
        go_ret
        exact ⟨by first | rfl | (simp [errW_none, errW_some] <;> rfl) | (simp [*, errW_none, errW_some] <;> rfl) | (simp [*, errW_none, errW_some]; generalize ByteArray.toList _ = q_; cases q_ <;> rfl), by repeat (first | (with_reducible first | exact HB.out | apply below_alloc | apply pw_below_drewN | apply below_drew1 | refine below_set ?_ GE142.out) | exact HB.out)⟩
      · replace c7 := Bool.eq_false_iff.mpr c7
        subst c7
        have H1 : (if a0_2 = 0 then (if a0_0 < 0 then (kakugyoref07_Check.j1 kj1 true a0_0 a0_1 a0_2 a0_3) else (kakugyoref07_Check.j1 kj1 (decide (a0_0 > 80)) a0_0 a0_1 a0_2 a0_3)) else (if a0_2 < 1 then (some 70) else (if a0_2 > 7 then (some 70) else (if a0_0 = 0 then (if a0_3 = true then (some 70) else (some 0)) else (some 70))))) = some r := by rw [if_neg (show ¬ (false = true) by decide)] at H; exact H
        clear H
        have H := H1
        clear H1
        by_cases c8 : a0_2 = 0
        · rw [if_pos c8] at H
          have c8b0 : (a0_2 == 0) = true := beq_iff_eq.mpr c8
          have c8b1 : (a0_2 != 0) = false := bne_eq_false_iff_eq.mpr c8
          clear c8
          have HC9 := Aside0.mk H
          clear H
          have hcz10_0 : wc.cell? ⟨gb142, 0, none⟩ = some (.int .i64 a0_0) := (blk_cell BK142.out 0).trans rfl
          have hcz10_1 : wc.cell? ⟨gb142, 1, none⟩ = some (.int .i64 a0_1) := (blk_cell BK142.out 1).trans rfl
          have hcz10_2 : wc.cell? ⟨gb142, 2, none⟩ = some (.int .i64 a0_2) := (blk_cell BK142.out 2).trans rfl
          have hcz10_3 : wc.cell? ⟨gb142, 3, none⟩ = some (.bool a0_3) := (blk_cell BK142.out 3).trans rfl
          have hfz10_0 := blk_frozen BK142.out 0
          have hfz10_1 := blk_frozen BK142.out 1
          have hfz10_2 := blk_frozen BK142.out 2
          have hfz10_3 := blk_frozen BK142.out 3
          go_upto_region 7 with (fail)
          go_cut [38] (fun v38 wc => ∃ (kq : Nat) (x38_8 : Bool), v38 = .bool x38_8 ∧ Aside0 (kakugyoref07_Check.j1 kq x38_8 a0_0 a0_1 a0_2 a0_3 = some r) ∧ Aside0 (kq ≤ kj1) ∧ Aside0 (wc.heap[gb142]? = some (.cells #[.int .i64 a0_0, .int .i64 a0_1, .int .i64 a0_2, .bool a0_3] 38 (0, 0))) ∧ Aside0 (Below w.heap.size w wc))
          case first =>
            have H := HC9.out
            clear HC9
            by_cases c11 : a0_0 < 0
            · rw [if_pos c11] at H
              have c11b0 : decide (a0_0 < 0) = true := decide_eq_true c11
              clear c11
              (first | rw [c11b0] | (simp only [i64_w, i32_w]; rw [c11b0]) | skip)
              have H' := Aside0.mk H
              clear H
              have hcz12_0 : wc.cell? ⟨gb142, 0, none⟩ = some (.int .i64 a0_0) := (blk_cell BK142.out 0).trans rfl
              have hcz12_1 : wc.cell? ⟨gb142, 1, none⟩ = some (.int .i64 a0_1) := (blk_cell BK142.out 1).trans rfl
              have hcz12_2 : wc.cell? ⟨gb142, 2, none⟩ = some (.int .i64 a0_2) := (blk_cell BK142.out 2).trans rfl
              have hcz12_3 : wc.cell? ⟨gb142, 3, none⟩ = some (.bool a0_3) := (blk_cell BK142.out 3).trans rfl
              have hfz12_0 := blk_frozen BK142.out 0
              have hfz12_1 := blk_frozen BK142.out 1
              have hfz12_2 := blk_frozen BK142.out 2
              have hfz12_3 := blk_frozen BK142.out 3
              go_wp2
              go_meet
              case rel => exact ⟨_, (true), (by first | rfl | (simp; done) | (simp [*]; done)), H', ⟨by have := HJ1.out; first | omega | exact Nat.le_refl _⟩, ⟨by (with_reducible repeat (first | refine blk_drewN ?_ _ | refine blk_drew ?_ | refine blk_alloc ?_ _)); exact BK142.out⟩, ⟨by repeat (first | (with_reducible first | exact HB.out | apply below_alloc | apply pw_below_drewN | apply below_drew1 | refine below_set ?_ GE142.out) | exact HB.out)⟩⟩
            · rw [if_neg c11] at H
              have c11b0 : decide (a0_0 < 0) = false := decide_eq_false c11
              clear c11
              (first | rw [c11b0] | (simp only [i64_w, i32_w]; rw [c11b0]) | skip)
              have H' := Aside0.mk H
              clear H
              have hcz13_0 : wc.cell? ⟨gb142, 0, none⟩ = some (.int .i64 a0_0) := (blk_cell BK142.out 0).trans rfl
              have hcz13_1 : wc.cell? ⟨gb142, 1, none⟩ = some (.int .i64 a0_1) := (blk_cell BK142.out 1).trans rfl
              have hcz13_2 : wc.cell? ⟨gb142, 2, none⟩ = some (.int .i64 a0_2) := (blk_cell BK142.out 2).trans rfl
              have hcz13_3 : wc.cell? ⟨gb142, 3, none⟩ = some (.bool a0_3) := (blk_cell BK142.out 3).trans rfl
              have hfz13_0 := blk_frozen BK142.out 0
              have hfz13_1 := blk_frozen BK142.out 1
              have hfz13_2 := blk_frozen BK142.out 2
              have hfz13_3 := blk_frozen BK142.out 3
              go_wp2
              go_meet
              case rel => exact ⟨_, (decide (a0_0 > 80)), (by first | rfl | (simp; done) | (simp [*]; done)), H', ⟨by have := HJ1.out; first | omega | exact Nat.le_refl _⟩, ⟨by (with_reducible repeat (first | refine blk_drewN ?_ _ | refine blk_drew ?_ | refine blk_alloc ?_ _)); exact BK142.out⟩, ⟨by repeat (first | (with_reducible first | exact HB.out | apply below_alloc | apply pw_below_drewN | apply below_drew1 | refine below_set ?_ GE142.out) | exact HB.out)⟩⟩
          case rest =>
            clear HC9
            try clear c1
            try clear c2
            try clear p2
            try clear c4
            try clear c4b0
            try clear c7
            try clear c8
            try clear c8b0
            try clear c8b1
            try clear c11
            try clear c11b0
            try clear hcz10_0
            try clear hcz10_1
            try clear hcz10_2
            try clear hcz10_3
            try clear hcz12_0
            try clear hcz12_1
            try clear hcz12_2
            try clear hcz12_3
            try clear hcz13_0
            try clear hcz13_1
            try clear hcz13_2
            try clear hcz13_3
            try clear hcz5_0
            try clear hcz5_1
            try clear hcz5_2
            try clear hcz5_3
            try clear hcz6_0
            try clear hcz6_1
            try clear hcz6_2
            try clear hcz6_3
            try clear hfz10_0
            try clear hfz10_1
            try clear hfz10_2
            try clear hfz10_3
            try clear hfz12_0
            try clear hfz12_1
            try clear hfz12_2
            try clear hfz12_3
            try clear hfz13_0
            try clear hfz13_1
            try clear hfz13_2
            try clear hfz13_3
            try clear hfz5_0
            try clear hfz5_1
            try clear hfz5_2
            try clear hfz5_3
            try clear hfz6_0
            try clear hfz6_1
            try clear hfz6_2
            try clear hfz6_3
            try clear p2
            obtain ⟨kq, x38_8, rfl, HA, HJ8, BK142, HB⟩ := hcut
            cases kq with
            | zero => exact absurd HA.out (by simp [kakugyoref07_Check.j1])
            | succ kj8 =>
              have H := HA.out
              clear HA
              simp only [kakugyoref07_Check.j1] at H
              by_cases c14 : x38_8 = true
              · subst c14
                have H1 : (some 1) = some r := by rw [if_pos rfl] at H; exact H
                clear H
                have H := H1
                clear H1
                obtain rfl := Option.some.inj H
                go_wp2
                go_ret
                exact ⟨by first | rfl | (simp [errW_none, errW_some] <;> rfl) | (simp [*, errW_none, errW_some] <;> rfl) | (simp [*, errW_none, errW_some]; generalize ByteArray.toList _ = q_; cases q_ <;> rfl), by repeat (first | (with_reducible first | exact HB.out | apply below_alloc | apply pw_below_drewN | apply below_drew1 | refine below_set ?_ GE142.out) | exact HB.out)⟩
              · replace c14 := Bool.eq_false_iff.mpr c14
                subst c14
                have H1 : (if a0_0 = a0_1 then (some 70) else (some 0)) = some r := by rw [if_neg (show ¬ (false = true) by decide)] at H; exact H
                clear H
                have H := H1
                clear H1
                by_cases c15 : a0_0 = a0_1
                · rw [if_pos c15] at H
                  have c15b0 : (a0_0 == a0_1) = true := beq_iff_eq.mpr c15
                  have c15b1 : (a0_0 != a0_1) = false := bne_eq_false_iff_eq.mpr c15
                  clear c15
                  obtain rfl := Option.some.inj H
                  have hcz16_0 : wc.cell? ⟨gb142, 0, none⟩ = some (.int .i64 a0_0) := (blk_cell BK142.out 0).trans rfl
                  have hcz16_1 : wc.cell? ⟨gb142, 1, none⟩ = some (.int .i64 a0_1) := (blk_cell BK142.out 1).trans rfl
                  have hcz16_2 : wc.cell? ⟨gb142, 2, none⟩ = some (.int .i64 a0_2) := (blk_cell BK142.out 2).trans rfl
                  have hcz16_3 : wc.cell? ⟨gb142, 3, none⟩ = some (.bool a0_3) := (blk_cell BK142.out 3).trans rfl
                  have hfz16_0 := blk_frozen BK142.out 0
                  have hfz16_1 := blk_frozen BK142.out 1
                  have hfz16_2 := blk_frozen BK142.out 2
                  have hfz16_3 := blk_frozen BK142.out 3
                  go_wp2
                  go_ret
                  exact ⟨by first | rfl | (simp [errW_none, errW_some] <;> rfl) | (simp [*, errW_none, errW_some] <;> rfl) | (simp [*, errW_none, errW_some]; generalize ByteArray.toList _ = q_; cases q_ <;> rfl), by repeat (first | (with_reducible first | exact HB.out | apply below_alloc | apply pw_below_drewN | apply below_drew1 | refine below_set ?_ GE142.out) | exact HB.out)⟩
                · rw [if_neg c15] at H
                  have c15b0 : (a0_0 == a0_1) = false := beq_eq_false_iff_ne.mpr c15
                  have c15b1 : (a0_0 != a0_1) = true := bne_iff_ne.mpr c15
                  obtain rfl := Option.some.inj H
                  have hcz17_0 : wc.cell? ⟨gb142, 0, none⟩ = some (.int .i64 a0_0) := (blk_cell BK142.out 0).trans rfl
                  have hcz17_1 : wc.cell? ⟨gb142, 1, none⟩ = some (.int .i64 a0_1) := (blk_cell BK142.out 1).trans rfl
                  have hcz17_2 : wc.cell? ⟨gb142, 2, none⟩ = some (.int .i64 a0_2) := (blk_cell BK142.out 2).trans rfl
                  have hcz17_3 : wc.cell? ⟨gb142, 3, none⟩ = some (.bool a0_3) := (blk_cell BK142.out 3).trans rfl
                  have hfz17_0 := blk_frozen BK142.out 0
                  have hfz17_1 := blk_frozen BK142.out 1
                  have hfz17_2 := blk_frozen BK142.out 2
                  have hfz17_3 := blk_frozen BK142.out 3
                  go_wp2
                  go_ret
                  exact ⟨by first | rfl | (simp [errW_none, errW_some] <;> rfl) | (simp [*, errW_none, errW_some] <;> rfl) | (simp [*, errW_none, errW_some]; generalize ByteArray.toList _ = q_; cases q_ <;> rfl), by repeat (first | (with_reducible first | exact HB.out | apply below_alloc | apply pw_below_drewN | apply below_drew1 | refine below_set ?_ GE142.out) | exact HB.out)⟩
        · rw [if_neg c8] at H
          have c8b0 : (a0_2 == 0) = false := beq_eq_false_iff_ne.mpr c8
          have c8b1 : (a0_2 != 0) = true := bne_iff_ne.mpr c8
          by_cases c18 : a0_2 < 1
          · rw [if_pos c18] at H
            have c18b0 : decide (a0_2 < 1) = true := decide_eq_true c18
            clear c18
            obtain rfl := Option.some.inj H
            have hcz19_0 : wc.cell? ⟨gb142, 0, none⟩ = some (.int .i64 a0_0) := (blk_cell BK142.out 0).trans rfl
            have hcz19_1 : wc.cell? ⟨gb142, 1, none⟩ = some (.int .i64 a0_1) := (blk_cell BK142.out 1).trans rfl
            have hcz19_2 : wc.cell? ⟨gb142, 2, none⟩ = some (.int .i64 a0_2) := (blk_cell BK142.out 2).trans rfl
            have hcz19_3 : wc.cell? ⟨gb142, 3, none⟩ = some (.bool a0_3) := (blk_cell BK142.out 3).trans rfl
            have hfz19_0 := blk_frozen BK142.out 0
            have hfz19_1 := blk_frozen BK142.out 1
            have hfz19_2 := blk_frozen BK142.out 2
            have hfz19_3 := blk_frozen BK142.out 3
            go_wp2
            go_ret
            exact ⟨by first | rfl | (simp [errW_none, errW_some] <;> rfl) | (simp [*, errW_none, errW_some] <;> rfl) | (simp [*, errW_none, errW_some]; generalize ByteArray.toList _ = q_; cases q_ <;> rfl), by repeat (first | (with_reducible first | exact HB.out | apply below_alloc | apply pw_below_drewN | apply below_drew1 | refine below_set ?_ GE142.out) | exact HB.out)⟩
          · rw [if_neg c18] at H
            have c18b0 : decide (a0_2 < 1) = false := decide_eq_false c18
            clear c18
            by_cases c20 : a0_2 > 7
            · rw [if_pos c20] at H
              have c20b0 : decide (7 < a0_2) = true := decide_eq_true c20
              clear c20
              obtain rfl := Option.some.inj H
              have hcz21_0 : wc.cell? ⟨gb142, 0, none⟩ = some (.int .i64 a0_0) := (blk_cell BK142.out 0).trans rfl
              have hcz21_1 : wc.cell? ⟨gb142, 1, none⟩ = some (.int .i64 a0_1) := (blk_cell BK142.out 1).trans rfl
              have hcz21_2 : wc.cell? ⟨gb142, 2, none⟩ = some (.int .i64 a0_2) := (blk_cell BK142.out 2).trans rfl
              have hcz21_3 : wc.cell? ⟨gb142, 3, none⟩ = some (.bool a0_3) := (blk_cell BK142.out 3).trans rfl
              have hfz21_0 := blk_frozen BK142.out 0
              have hfz21_1 := blk_frozen BK142.out 1
              have hfz21_2 := blk_frozen BK142.out 2
              have hfz21_3 := blk_frozen BK142.out 3
              go_wp2
              go_ret
              exact ⟨by first | rfl | (simp [errW_none, errW_some] <;> rfl) | (simp [*, errW_none, errW_some] <;> rfl) | (simp [*, errW_none, errW_some]; generalize ByteArray.toList _ = q_; cases q_ <;> rfl), by repeat (first | (with_reducible first | exact HB.out | apply below_alloc | apply pw_below_drewN | apply below_drew1 | refine below_set ?_ GE142.out) | exact HB.out)⟩
            · rw [if_neg c20] at H
              have c20b0 : decide (7 < a0_2) = false := decide_eq_false c20
              clear c20
              by_cases c22 : a0_0 = 0
              · rw [if_pos c22] at H
                have c22b0 : (a0_0 == 0) = true := beq_iff_eq.mpr c22
                have c22b1 : (a0_0 != 0) = false := bne_eq_false_iff_eq.mpr c22
                clear c22
                by_cases c23 : a0_3 = true
                · subst c23
                  have H1 : (some 70) = some r := by rw [if_pos rfl] at H; exact H
                  clear H
                  have H := H1
                  clear H1
                  obtain rfl := Option.some.inj H
                  have hcz24_0 : wc.cell? ⟨gb142, 0, none⟩ = some (.int .i64 a0_0) := (blk_cell BK142.out 0).trans rfl
                  have hcz24_1 : wc.cell? ⟨gb142, 1, none⟩ = some (.int .i64 a0_1) := (blk_cell BK142.out 1).trans rfl
                  have hcz24_2 : wc.cell? ⟨gb142, 2, none⟩ = some (.int .i64 a0_2) := (blk_cell BK142.out 2).trans rfl
                  have hcz24_3 : wc.cell? ⟨gb142, 3, none⟩ = some (.bool true) := (blk_cell BK142.out 3).trans rfl
                  have hfz24_0 := blk_frozen BK142.out 0
                  have hfz24_1 := blk_frozen BK142.out 1
                  have hfz24_2 := blk_frozen BK142.out 2
                  have hfz24_3 := blk_frozen BK142.out 3
                  go_wp2
                  go_ret
                  exact ⟨by first | rfl | (simp [errW_none, errW_some] <;> rfl) | (simp [*, errW_none, errW_some] <;> rfl) | (simp [*, errW_none, errW_some]; generalize ByteArray.toList _ = q_; cases q_ <;> rfl), by repeat (first | (with_reducible first | exact HB.out | apply below_alloc | apply pw_below_drewN | apply below_drew1 | refine below_set ?_ GE142.out) | exact HB.out)⟩
                · replace c23 := Bool.eq_false_iff.mpr c23
                  subst c23
                  have H1 : (some 0) = some r := by rw [if_neg (show ¬ (false = true) by decide)] at H; exact H
                  clear H
                  have H := H1
                  clear H1
                  obtain rfl := Option.some.inj H
                  have hcz25_0 : wc.cell? ⟨gb142, 0, none⟩ = some (.int .i64 a0_0) := (blk_cell BK142.out 0).trans rfl
                  have hcz25_1 : wc.cell? ⟨gb142, 1, none⟩ = some (.int .i64 a0_1) := (blk_cell BK142.out 1).trans rfl
                  have hcz25_2 : wc.cell? ⟨gb142, 2, none⟩ = some (.int .i64 a0_2) := (blk_cell BK142.out 2).trans rfl
                  have hcz25_3 : wc.cell? ⟨gb142, 3, none⟩ = some (.bool false) := (blk_cell BK142.out 3).trans rfl
                  have hfz25_0 := blk_frozen BK142.out 0
                  have hfz25_1 := blk_frozen BK142.out 1
                  have hfz25_2 := blk_frozen BK142.out 2
                  have hfz25_3 := blk_frozen BK142.out 3
                  go_wp2
                  go_ret
                  exact ⟨by first | rfl | (simp [errW_none, errW_some] <;> rfl) | (simp [*, errW_none, errW_some] <;> rfl) | (simp [*, errW_none, errW_some]; generalize ByteArray.toList _ = q_; cases q_ <;> rfl), by repeat (first | (with_reducible first | exact HB.out | apply below_alloc | apply pw_below_drewN | apply below_drew1 | refine below_set ?_ GE142.out) | exact HB.out)⟩
              · rw [if_neg c22] at H
                have c22b0 : (a0_0 == 0) = false := beq_eq_false_iff_ne.mpr c22
                have c22b1 : (a0_0 != 0) = true := bne_iff_ne.mpr c22
                obtain rfl := Option.some.inj H
                have hcz26_0 : wc.cell? ⟨gb142, 0, none⟩ = some (.int .i64 a0_0) := (blk_cell BK142.out 0).trans rfl
                have hcz26_1 : wc.cell? ⟨gb142, 1, none⟩ = some (.int .i64 a0_1) := (blk_cell BK142.out 1).trans rfl
                have hcz26_2 : wc.cell? ⟨gb142, 2, none⟩ = some (.int .i64 a0_2) := (blk_cell BK142.out 2).trans rfl
                have hcz26_3 : wc.cell? ⟨gb142, 3, none⟩ = some (.bool a0_3) := (blk_cell BK142.out 3).trans rfl
                have hfz26_0 := blk_frozen BK142.out 0
                have hfz26_1 := blk_frozen BK142.out 1
                have hfz26_2 := blk_frozen BK142.out 2
                have hfz26_3 := blk_frozen BK142.out 3
                go_wp2
                go_ret
                exact ⟨by first | rfl | (simp [errW_none, errW_some] <;> rfl) | (simp [*, errW_none, errW_some] <;> rfl) | (simp [*, errW_none, errW_some]; generalize ByteArray.toList _ = q_; cases q_ <;> rfl), by repeat (first | (with_reducible first | exact HB.out | apply below_alloc | apply pw_below_drewN | apply below_drew1 | refine below_set ?_ GE142.out) | exact HB.out)⟩

/-! ### kakugyoref07_Square: function 28 -/
def kakugyoref07_Square.f (a0 : Int) : Option (ByteArray) := if 0 ≤ (wrap64 (Int.tdiv a0 9)) then (if (wrap64 (Int.tdiv a0 9)) ≤ (wrap64 ((wrap64 (Int.tdiv a0 9)) + 1)) then (if (wrap64 ((wrap64 (Int.tdiv a0 9)) + 1)) ≤ 9 then (if 0 ≤ (Int.tmod a0 9) then (if (Int.tmod a0 9) ≤ (wrap64 ((Int.tmod a0 9) + 1)) then (if (wrap64 ((Int.tmod a0 9) + 1)) ≤ 9 then (if ((⟨#[49, 50, 51, 52, 53, 54, 55, 56, 57]⟩ : ByteArray).extract ((wrap64 (Int.tdiv a0 9)) : Int).toNat ((wrap64 ((wrap64 (Int.tdiv a0 9)) + 1)) : Int).toNat).size + ((⟨#[97, 98, 99, 100, 101, 102, 103, 104, 105]⟩ : ByteArray).extract ((Int.tmod a0 9) : Int).toNat ((wrap64 ((Int.tmod a0 9) + 1)) : Int).toNat).size ≤ 9223372036854775807 then (some (((⟨#[49, 50, 51, 52, 53, 54, 55, 56, 57]⟩ : ByteArray).extract ((wrap64 (Int.tdiv a0 9)) : Int).toNat ((wrap64 ((wrap64 (Int.tdiv a0 9)) + 1)) : Int).toNat) ++ ((⟨#[97, 98, 99, 100, 101, 102, 103, 104, 105]⟩ : ByteArray).extract ((Int.tmod a0 9) : Int).toNat ((wrap64 ((Int.tmod a0 9) + 1)) : Int).toNat))) else (none)) else (none)) else (none)) else (none)) else (none)) else (none)) else (none)
set_option maxHeartbeats 8000000 in
set_option maxRecDepth 100000 in
theorem kakugyoref07_Square.calls (a0 : Int) (r : ByteArray) (w : World) (h : kakugyoref07_Square.f a0 = some r) :
    Calls Try.prog 28 #[.int .i64 a0] w fun e w' => e = .returned (.string r) ∧ Drawn0 w w' := by
  have H : (if 0 ≤ (wrap64 (Int.tdiv a0 9)) then (if (wrap64 (Int.tdiv a0 9)) ≤ (wrap64 ((wrap64 (Int.tdiv a0 9)) + 1)) then (if (wrap64 ((wrap64 (Int.tdiv a0 9)) + 1)) ≤ 9 then (if 0 ≤ (Int.tmod a0 9) then (if (Int.tmod a0 9) ≤ (wrap64 ((Int.tmod a0 9) + 1)) then (if (wrap64 ((Int.tmod a0 9) + 1)) ≤ 9 then (if ((⟨#[49, 50, 51, 52, 53, 54, 55, 56, 57]⟩ : ByteArray).extract ((wrap64 (Int.tdiv a0 9)) : Int).toNat ((wrap64 ((wrap64 (Int.tdiv a0 9)) + 1)) : Int).toNat).size + ((⟨#[97, 98, 99, 100, 101, 102, 103, 104, 105]⟩ : ByteArray).extract ((Int.tmod a0 9) : Int).toNat ((wrap64 ((Int.tmod a0 9) + 1)) : Int).toNat).size ≤ 9223372036854775807 then (some (((⟨#[49, 50, 51, 52, 53, 54, 55, 56, 57]⟩ : ByteArray).extract ((wrap64 (Int.tdiv a0 9)) : Int).toNat ((wrap64 ((wrap64 (Int.tdiv a0 9)) + 1)) : Int).toNat) ++ ((⟨#[97, 98, 99, 100, 101, 102, 103, 104, 105]⟩ : ByteArray).extract ((Int.tmod a0 9) : Int).toNat ((wrap64 ((Int.tmod a0 9) + 1)) : Int).toNat))) else (none)) else (none)) else (none)) else (none)) else (none)) else (none)) else (none)) = some r := h
  clear h
  obtain ⟨ji2, hji2⟩ : ∃ j_ : Int, (wrap64 (Int.tdiv a0 9)) = j_ := ⟨_, rfl⟩
  replace H : (if 0 ≤ (ji2) then (if (ji2) ≤ (wrap64 ((ji2) + 1)) then (if (wrap64 ((ji2) + 1)) ≤ 9 then (if 0 ≤ (Int.tmod a0 9) then (if (Int.tmod a0 9) ≤ (wrap64 ((Int.tmod a0 9) + 1)) then (if (wrap64 ((Int.tmod a0 9) + 1)) ≤ 9 then (if ((⟨#[49, 50, 51, 52, 53, 54, 55, 56, 57]⟩ : ByteArray).extract ((ji2) : Int).toNat ((wrap64 ((ji2) + 1)) : Int).toNat).size + ((⟨#[97, 98, 99, 100, 101, 102, 103, 104, 105]⟩ : ByteArray).extract ((Int.tmod a0 9) : Int).toNat ((wrap64 ((Int.tmod a0 9) + 1)) : Int).toNat).size ≤ 9223372036854775807 then (some (((⟨#[49, 50, 51, 52, 53, 54, 55, 56, 57]⟩ : ByteArray).extract ((ji2) : Int).toNat ((wrap64 ((ji2) + 1)) : Int).toNat) ++ ((⟨#[97, 98, 99, 100, 101, 102, 103, 104, 105]⟩ : ByteArray).extract ((Int.tmod a0 9) : Int).toNat ((wrap64 ((Int.tmod a0 9) + 1)) : Int).toNat))) else (none)) else (none)) else (none)) else (none)) else (none)) else (none)) else (none)) = some r := by first | (rw [hji2] at H; exact H) | (simp only [hji2] at H ⊢; exact H)
  have hji2w : (IntKind.i64.wrap (Int.tdiv a0 9)) = ji2 := (i64_w _).trans hji2
  by_cases c3 : 0 ≤ (ji2)
  · rw [if_pos c3] at H
    have c3b0 := eq_true c3
    have c3b1 : decide (0 ≤ (ji2)) = true := decide_eq_true c3
    clear c3
    by_cases c4 : (ji2) ≤ (wrap64 ((ji2) + 1))
    · rw [if_pos c4] at H
      have c4b0 := eq_true c4
      have c4b1 : decide ((ji2) ≤ (wrap64 ((ji2) + 1))) = true := decide_eq_true c4
      by_cases c5 : (wrap64 ((ji2) + 1)) ≤ 9
      · rw [if_pos c5] at H
        have c5b0 := eq_true c5
        have c5b1 : decide ((wrap64 ((ji2) + 1)) ≤ 9) = true := decide_eq_true c5
        obtain ⟨ji6, hji6⟩ : ∃ j_ : Int, (Int.tmod a0 9) = j_ := ⟨_, rfl⟩
        replace H : (if 0 ≤ (ji6) then (if (ji6) ≤ (wrap64 ((ji6) + 1)) then (if (wrap64 ((ji6) + 1)) ≤ 9 then (if ((⟨#[49, 50, 51, 52, 53, 54, 55, 56, 57]⟩ : ByteArray).extract ((ji2) : Int).toNat ((wrap64 ((ji2) + 1)) : Int).toNat).size + ((⟨#[97, 98, 99, 100, 101, 102, 103, 104, 105]⟩ : ByteArray).extract ((ji6) : Int).toNat ((wrap64 ((ji6) + 1)) : Int).toNat).size ≤ 9223372036854775807 then (some (((⟨#[49, 50, 51, 52, 53, 54, 55, 56, 57]⟩ : ByteArray).extract ((ji2) : Int).toNat ((wrap64 ((ji2) + 1)) : Int).toNat) ++ ((⟨#[97, 98, 99, 100, 101, 102, 103, 104, 105]⟩ : ByteArray).extract ((ji6) : Int).toNat ((wrap64 ((ji6) + 1)) : Int).toNat))) else (none)) else (none)) else (none)) else (none)) = some r := by first | (rw [hji6] at H; exact H) | (simp only [hji6] at H ⊢; exact H)
        by_cases c7 : 0 ≤ (ji6)
        · rw [if_pos c7] at H
          have c7b0 := eq_true c7
          have c7b1 : decide (0 ≤ (ji6)) = true := decide_eq_true c7
          clear c7
          by_cases c8 : (ji6) ≤ (wrap64 ((ji6) + 1))
          · rw [if_pos c8] at H
            have c8b0 := eq_true c8
            have c8b1 : decide ((ji6) ≤ (wrap64 ((ji6) + 1))) = true := decide_eq_true c8
            by_cases c9 : (wrap64 ((ji6) + 1)) ≤ 9
            · rw [if_pos c9] at H
              have c9b0 := eq_true c9
              have c9b1 : decide ((wrap64 ((ji6) + 1)) ≤ 9) = true := decide_eq_true c9
              by_cases c10 : ((⟨#[49, 50, 51, 52, 53, 54, 55, 56, 57]⟩ : ByteArray).extract ((ji2) : Int).toNat ((wrap64 ((ji2) + 1)) : Int).toNat).size + ((⟨#[97, 98, 99, 100, 101, 102, 103, 104, 105]⟩ : ByteArray).extract ((ji6) : Int).toNat ((wrap64 ((ji6) + 1)) : Int).toNat).size ≤ 9223372036854775807
              · rw [if_pos c10] at H
                have c10b0 := eq_true c10
                have c10b1 : decide (((⟨#[49, 50, 51, 52, 53, 54, 55, 56, 57]⟩ : ByteArray).extract ((ji2) : Int).toNat ((wrap64 ((ji2) + 1)) : Int).toNat).size + ((⟨#[97, 98, 99, 100, 101, 102, 103, 104, 105]⟩ : ByteArray).extract ((ji6) : Int).toNat ((wrap64 ((ji6) + 1)) : Int).toNat).size ≤ 9223372036854775807) = true := decide_eq_true c10
                try have c10b2 : (9223372036854775807 < ((⟨#[49, 50, 51, 52, 53, 54, 55, 56, 57]⟩ : ByteArray).extract ((ji2) : Int).toNat ((wrap64 ((ji2) + 1)) : Int).toNat).size + ((⟨#[97, 98, 99, 100, 101, 102, 103, 104, 105]⟩ : ByteArray).extract ((ji6) : Int).toNat ((wrap64 ((ji6) + 1)) : Int).toNat).size) = False := eq_false (Nat.not_lt.2 c10)
                try (have c10b3 := c10b2; simp only [ByteArray.size_append, ByteArray.size_extract, (show (⟨#[49, 50, 51, 52, 53, 54, 55, 56, 57]⟩ : ByteArray).size = 9 from rfl), (show (⟨#[97, 98, 99, 100, 101, 102, 103, 104, 105]⟩ : ByteArray).size = 9 from rfl)] at c10b3)
                try (have c10b4 := c10b3; rw [Nat.min_eq_left] at c10b4; rotate_left; focus (simp [*]; done))
                obtain rfl := Option.some.inj H
                go_enter Try.func28, Try.ntmps28
                go_wp2
                repeat (go_quiet (fail); try go_wp2)
                go_ret
                exact ⟨by first | rfl | (simp; done) | (simp only [← hji2, ← hji6] <;> (first | rfl | simp)) | (simp [*]; done), by repeat (first | exact Drawn0.refl _ | apply Drawn0.step)⟩
              · rw [if_neg c10] at H
                exact absurd H (by simp)
            · rw [if_neg c9] at H
              exact absurd H (by simp)
          · rw [if_neg c8] at H
            exact absurd H (by simp)
        · rw [if_neg c7] at H
          exact absurd H (by simp)
      · rw [if_neg c5] at H
        exact absurd H (by simp)
    · rw [if_neg c4] at H
      exact absurd H (by simp)
  · rw [if_neg c3] at H
    exact absurd H (by simp)

/-! ### kakugyoref07_Text: function 22 -/
def kakugyoref07_Text.f (k : Nat) (a0_0 : Int) (a0_1 : Int) (a0_2 : Int) (a0_3 : Bool) : Option (ByteArray) := (kakugyoref07_Check.f k a0_0 a0_1 a0_2 a0_3).bind fun t144 => (if t144 = 0 then (if a0_2 = 0 then ((kakugyoref07_Square.f a0_0).bind fun t146 => ((kakugyoref07_Square.f a0_1).bind fun t147 => (if t146.size + t147.size ≤ 9223372036854775807 then (if a0_3 = true then (if (t146 ++ t147).size + 1 ≤ 9223372036854775807 then (some ((t146 ++ t147) ++ (⟨#[43]⟩ : ByteArray))) else (none)) else (some (t146 ++ t147))) else (none)))) else (if 0 ≤ (wrap64 (a0_2 - 1)) then (if (wrap64 (a0_2 - 1)) ≤ a0_2 then (if a0_2 ≤ 7 then (if ((⟨#[80, 76, 78, 83, 71, 66, 82]⟩ : ByteArray).extract ((wrap64 (a0_2 - 1)) : Int).toNat (a0_2 : Int).toNat).size + 1 ≤ 9223372036854775807 then ((kakugyoref07_Square.f a0_1).bind fun t145 => (if (((⟨#[80, 76, 78, 83, 71, 66, 82]⟩ : ByteArray).extract ((wrap64 (a0_2 - 1)) : Int).toNat (a0_2 : Int).toNat) ++ (⟨#[42]⟩ : ByteArray)).size + t145.size ≤ 9223372036854775807 then (some ((((⟨#[80, 76, 78, 83, 71, 66, 82]⟩ : ByteArray).extract ((wrap64 (a0_2 - 1)) : Int).toNat (a0_2 : Int).toNat) ++ (⟨#[42]⟩ : ByteArray)) ++ t145)) else (none))) else (none)) else (none)) else (none)) else (none))) else (some (⟨#[]⟩ : ByteArray)))
theorem kakugyoref07_Text.mono : ∀ a0 a1 a2 a3 k, LeO (kakugyoref07_Text.f k a0 a1 a2 a3) (kakugyoref07_Text.f (k + 1) a0 a1 a2 a3) := by
  intro a0 a1 a2 a3 k
  unfold kakugyoref07_Text.f
  repeat' first
      | (with_reducible exact kakugyoref07_Check.mono _ _ _ _ _)
      | (with_reducible exact LeO.refl _)
      | (with_reducible exact LeO.none _)
      | (with_reducible refine LeO.ite ?_ ?_)
      | (with_reducible refine LeO.bind ?_ (fun _ => ?_))
      | exact kakugyoref07_Check.mono _ _ _ _ _
      | exact LeO.none _
      | refine LeO.ite ?_ ?_
      | refine LeO.bind ?_ (fun _ => ?_)
set_option maxHeartbeats 8000000 in
set_option maxRecDepth 100000 in
theorem kakugyoref07_Text.calls (k : Nat) (a0_0 : Int) (a0_1 : Int) (a0_2 : Int) (a0_3 : Bool) (r : ByteArray) (w : World) (h : kakugyoref07_Text.f k a0_0 a0_1 a0_2 a0_3 = some r) :
    Calls Try.prog 22 #[.agg #[.int .i64 a0_0, .int .i64 a0_1, .int .i64 a0_2, .bool a0_3]] w fun e w' => e = .returned (.string r) ∧ Below w.heap.size w w' := by
  have hu38 := Try.underlying38
  have HB := Aside0.mk (Below.refl w.heap.size w)
  have H : ((kakugyoref07_Check.f k a0_0 a0_1 a0_2 a0_3).bind fun t144 => (if t144 = 0 then (if a0_2 = 0 then ((kakugyoref07_Square.f a0_0).bind fun t146 => ((kakugyoref07_Square.f a0_1).bind fun t147 => (if t146.size + t147.size ≤ 9223372036854775807 then (if a0_3 = true then (if (t146 ++ t147).size + 1 ≤ 9223372036854775807 then (some ((t146 ++ t147) ++ (⟨#[43]⟩ : ByteArray))) else (none)) else (some (t146 ++ t147))) else (none)))) else (if 0 ≤ (wrap64 (a0_2 - 1)) then (if (wrap64 (a0_2 - 1)) ≤ a0_2 then (if a0_2 ≤ 7 then (if ((⟨#[80, 76, 78, 83, 71, 66, 82]⟩ : ByteArray).extract ((wrap64 (a0_2 - 1)) : Int).toNat (a0_2 : Int).toNat).size + 1 ≤ 9223372036854775807 then ((kakugyoref07_Square.f a0_1).bind fun t145 => (if (((⟨#[80, 76, 78, 83, 71, 66, 82]⟩ : ByteArray).extract ((wrap64 (a0_2 - 1)) : Int).toNat (a0_2 : Int).toNat) ++ (⟨#[42]⟩ : ByteArray)).size + t145.size ≤ 9223372036854775807 then (some ((((⟨#[80, 76, 78, 83, 71, 66, 82]⟩ : ByteArray).extract ((wrap64 (a0_2 - 1)) : Int).toNat (a0_2 : Int).toNat) ++ (⟨#[42]⟩ : ByteArray)) ++ t145)) else (none))) else (none)) else (none)) else (none)) else (none))) else (some (⟨#[]⟩ : ByteArray)))) = some r := h
  clear h
  replace H := Option.bind_eq_some_iff.mp H
  obtain ⟨t144, A20, H⟩ := H
  replace H : (if t144 = 0 then (if a0_2 = 0 then ((kakugyoref07_Square.f a0_0).bind fun t146 => ((kakugyoref07_Square.f a0_1).bind fun t147 => (if t146.size + t147.size ≤ 9223372036854775807 then (if a0_3 = true then (if (t146 ++ t147).size + 1 ≤ 9223372036854775807 then (some ((t146 ++ t147) ++ (⟨#[43]⟩ : ByteArray))) else (none)) else (some (t146 ++ t147))) else (none)))) else (if 0 ≤ (wrap64 (a0_2 - 1)) then (if (wrap64 (a0_2 - 1)) ≤ a0_2 then (if a0_2 ≤ 7 then (if ((⟨#[80, 76, 78, 83, 71, 66, 82]⟩ : ByteArray).extract ((wrap64 (a0_2 - 1)) : Int).toNat (a0_2 : Int).toNat).size + 1 ≤ 9223372036854775807 then ((kakugyoref07_Square.f a0_1).bind fun t145 => (if (((⟨#[80, 76, 78, 83, 71, 66, 82]⟩ : ByteArray).extract ((wrap64 (a0_2 - 1)) : Int).toNat (a0_2 : Int).toNat) ++ (⟨#[42]⟩ : ByteArray)).size + t145.size ≤ 9223372036854775807 then (some ((((⟨#[80, 76, 78, 83, 71, 66, 82]⟩ : ByteArray).extract ((wrap64 (a0_2 - 1)) : Int).toNat (a0_2 : Int).toNat) ++ (⟨#[42]⟩ : ByteArray)) ++ t145)) else (none))) else (none)) else (none)) else (none)) else (none))) else (some (⟨#[]⟩ : ByteArray))) = some r := H
  have A2 := Aside0.mk A20
  clear A20
  by_cases c3 : t144 = 0
  · rw [if_pos c3] at H
    have c3b0 : (t144 == 0) = true := beq_iff_eq.mpr c3
    have c3b1 : (t144 != 0) = false := bne_eq_false_iff_eq.mpr c3
    clear c3
    by_cases c4 : a0_2 = 0
    · rw [if_pos c4] at H
      have c4b0 : (a0_2 == 0) = true := beq_iff_eq.mpr c4
      have c4b1 : (a0_2 != 0) = false := bne_eq_false_iff_eq.mpr c4
      clear c4
      replace H := Option.bind_eq_some_iff.mp H
      obtain ⟨t146, A50, H⟩ := H
      replace H : ((kakugyoref07_Square.f a0_1).bind fun t147 => (if t146.size + t147.size ≤ 9223372036854775807 then (if a0_3 = true then (if (t146 ++ t147).size + 1 ≤ 9223372036854775807 then (some ((t146 ++ t147) ++ (⟨#[43]⟩ : ByteArray))) else (none)) else (some (t146 ++ t147))) else (none))) = some r := H
      have A5 := Aside0.mk A50
      clear A50
      replace H := Option.bind_eq_some_iff.mp H
      obtain ⟨t147, A60, H⟩ := H
      replace H : (if t146.size + t147.size ≤ 9223372036854775807 then (if a0_3 = true then (if (t146 ++ t147).size + 1 ≤ 9223372036854775807 then (some ((t146 ++ t147) ++ (⟨#[43]⟩ : ByteArray))) else (none)) else (some (t146 ++ t147))) else (none)) = some r := H
      have A6 := Aside0.mk A60
      clear A60
      by_cases c7 : t146.size + t147.size ≤ 9223372036854775807
      · rw [if_pos c7] at H
        have c7b0 := eq_true c7
        have c7b1 : decide (t146.size + t147.size ≤ 9223372036854775807) = true := decide_eq_true c7
        try have c7b2 : (9223372036854775807 < t146.size + t147.size) = False := eq_false (Nat.not_lt.2 c7)
        by_cases c8 : a0_3 = true
        · subst c8
          have H1 : (if (t146 ++ t147).size + 1 ≤ 9223372036854775807 then (some ((t146 ++ t147) ++ (⟨#[43]⟩ : ByteArray))) else (none)) = some r := by rw [if_pos rfl] at H; exact H
          clear H
          have H := H1
          clear H1
          by_cases c9 : (t146 ++ t147).size + 1 ≤ 9223372036854775807
          · rw [if_pos c9] at H
            have c9b0 := eq_true c9
            have c9b1 : decide ((t146 ++ t147).size + 1 ≤ 9223372036854775807) = true := decide_eq_true c9
            try have c9b2 : (9223372036854775807 < (t146 ++ t147).size + 1) = False := eq_false (Nat.not_lt.2 c9)
            try (have c9b3 := c9b2; simp only [ByteArray.size_append, ByteArray.size_extract] at c9b3)
            obtain rfl := Option.some.inj H
            go_enter Try.func22, Try.ntmps22
            go_wp2_with (first | ((with_reducible refine gate_dst (N := 1) rfl ?_); refine box_event ?hg (N := 1) ?hd (cs := #[.int .i64 a0_0, .int .i64 a0_1, .int .i64 a0_2, .bool true]) (t := 38) ?hr ?_; (case hd => rfl); (case hg => rfl); (case hr => first | (go_simp; done) | (go_simp; rfl)); intro gb143 hg w10 hbox hb; have n0_ := Aside0.mk (below_step (by repeat (first | (with_reducible first | exact HB.out | apply below_alloc | apply pw_below_drewN | apply below_drew1) | exact HB.out)) hb); have n1_ := Aside0.mk (hbox); have n2_ := Aside0.mk ((by rw [hg]; exact (below_size (by repeat (first | (with_reducible first | exact HB.out | apply below_alloc | apply pw_below_drewN | apply below_drew1) | exact HB.out))) : w.heap.size ≤ gb143)); have n3_ := Aside0.mk ((by rw [hg]; exact (below_size (by repeat (first | (with_reducible first | exact HB.out | apply below_alloc | apply pw_below_drewN | apply below_drew1) | exact HB.out))) : w.heap.size ≤ gb143)); clear HB; have HB := n0_; have BK143 := n1_; have GW143 := n2_; have GE143 := n3_; clear n0_ n1_ n2_ n3_; clear hb hbox hg; have hcz11_0 : w10.cell? ⟨gb143, 0, none⟩ = some (.int .i64 a0_0) := (blk_cell BK143.out 0).trans rfl; have hcz11_1 : w10.cell? ⟨gb143, 1, none⟩ = some (.int .i64 a0_1) := (blk_cell BK143.out 1).trans rfl; have hcz11_2 : w10.cell? ⟨gb143, 2, none⟩ = some (.int .i64 a0_2) := (blk_cell BK143.out 2).trans rfl; have hcz11_3 : w10.cell? ⟨gb143, 3, none⟩ = some (.bool true) := (blk_cell BK143.out 3).trans rfl; have hfz11_0 := blk_frozen BK143.out 0; have hfz11_1 := blk_frozen BK143.out 1; have hfz11_2 := blk_frozen BK143.out 2; have hfz11_3 := blk_frozen BK143.out 3) | (go_at_call 24; (with_reducible refine (kakugyoref07_Check.calls k a0_0 a0_1 a0_2 true t144 _ A2.out).mono ?_); rintro e w12 ⟨rfl, hb⟩; have n0_ := Aside0.mk (blk_below (g := gb143) (o := .cells #[.int .i64 a0_0, .int .i64 a0_1, .int .i64 a0_2, .bool true] 38 (0, 0)) (by (with_reducible repeat (first | refine blk_drewN ?_ _ | refine blk_drew ?_ | refine blk_alloc ?_ _)); exact BK143.out) hb); have n1_ := Aside0.mk (below_step (by repeat (first | (with_reducible first | exact HB.out | apply below_alloc | apply pw_below_drewN | apply below_drew1 | refine below_set ?_ GE143.out) | exact HB.out)) hb); clear BK143; clear HB; have BK143 := n0_; have HB := n1_; clear n0_ n1_; (try clear hb); (try clear hb2); (try clear hk); (try clear hi); have hcz13_0 : w12.cell? ⟨gb143, 0, none⟩ = some (.int .i64 a0_0) := (blk_cell BK143.out 0).trans rfl; have hcz13_1 : w12.cell? ⟨gb143, 1, none⟩ = some (.int .i64 a0_1) := (blk_cell BK143.out 1).trans rfl; have hcz13_2 : w12.cell? ⟨gb143, 2, none⟩ = some (.int .i64 a0_2) := (blk_cell BK143.out 2).trans rfl; have hcz13_3 : w12.cell? ⟨gb143, 3, none⟩ = some (.bool true) := (blk_cell BK143.out 3).trans rfl; have hfz13_0 := blk_frozen BK143.out 0; have hfz13_1 := blk_frozen BK143.out 1; have hfz13_2 := blk_frozen BK143.out 2; have hfz13_3 := blk_frozen BK143.out 3) | (go_at_call 28; (with_reducible refine (kakugyoref07_Square.calls a0_0 t146 _ A5.out).mono ?_); rintro e w' ⟨rfl, ⟨nd, rfl⟩⟩; (try first | exact ⟨rfl, _, World.drewN_drewN _ _ _⟩ | exact ⟨rfl, _, Eq.trans (World.drewN_drewN _ _ _) (congrArg (World.drewN _) (Nat.add_assoc _ _ _))⟩)) | (go_at_call 28; (with_reducible refine (kakugyoref07_Square.calls a0_1 t147 _ A6.out).mono ?_); rintro e w' ⟨rfl, ⟨nd, rfl⟩⟩; (try first | exact ⟨rfl, _, World.drewN_drewN _ _ _⟩ | exact ⟨rfl, _, Eq.trans (World.drewN_drewN _ _ _) (congrArg (World.drewN _) (Nat.add_assoc _ _ _))⟩)))
            repeat (go_quiet (first | ((with_reducible refine gate_dst (N := 1) rfl ?_); refine box_event ?hg (N := 1) ?hd (cs := #[.int .i64 a0_0, .int .i64 a0_1, .int .i64 a0_2, .bool true]) (t := 38) ?hr ?_; (case hd => rfl); (case hg => rfl); (case hr => first | (go_simp; done) | (go_simp; rfl)); intro gb143 hg w10 hbox hb; have n0_ := Aside0.mk (below_step (by repeat (first | (with_reducible first | exact HB.out | apply below_alloc | apply pw_below_drewN | apply below_drew1) | exact HB.out)) hb); have n1_ := Aside0.mk (hbox); have n2_ := Aside0.mk ((by rw [hg]; exact (below_size (by repeat (first | (with_reducible first | exact HB.out | apply below_alloc | apply pw_below_drewN | apply below_drew1) | exact HB.out))) : w.heap.size ≤ gb143)); have n3_ := Aside0.mk ((by rw [hg]; exact (below_size (by repeat (first | (with_reducible first | exact HB.out | apply below_alloc | apply pw_below_drewN | apply below_drew1) | exact HB.out))) : w.heap.size ≤ gb143)); clear HB; have HB := n0_; have BK143 := n1_; have GW143 := n2_; have GE143 := n3_; clear n0_ n1_ n2_ n3_; clear hb hbox hg; have hcz11_0 : w10.cell? ⟨gb143, 0, none⟩ = some (.int .i64 a0_0) := (blk_cell BK143.out 0).trans rfl; have hcz11_1 : w10.cell? ⟨gb143, 1, none⟩ = some (.int .i64 a0_1) := (blk_cell BK143.out 1).trans rfl; have hcz11_2 : w10.cell? ⟨gb143, 2, none⟩ = some (.int .i64 a0_2) := (blk_cell BK143.out 2).trans rfl; have hcz11_3 : w10.cell? ⟨gb143, 3, none⟩ = some (.bool true) := (blk_cell BK143.out 3).trans rfl; have hfz11_0 := blk_frozen BK143.out 0; have hfz11_1 := blk_frozen BK143.out 1; have hfz11_2 := blk_frozen BK143.out 2; have hfz11_3 := blk_frozen BK143.out 3) | (go_at_call 24; (with_reducible refine (kakugyoref07_Check.calls k a0_0 a0_1 a0_2 true t144 _ A2.out).mono ?_); rintro e w12 ⟨rfl, hb⟩; have n0_ := Aside0.mk (blk_below (g := gb143) (o := .cells #[.int .i64 a0_0, .int .i64 a0_1, .int .i64 a0_2, .bool true] 38 (0, 0)) (by (with_reducible repeat (first | refine blk_drewN ?_ _ | refine blk_drew ?_ | refine blk_alloc ?_ _)); exact BK143.out) hb); have n1_ := Aside0.mk (below_step (by repeat (first | (with_reducible first | exact HB.out | apply below_alloc | apply pw_below_drewN | apply below_drew1 | refine below_set ?_ GE143.out) | exact HB.out)) hb); clear BK143; clear HB; have BK143 := n0_; have HB := n1_; clear n0_ n1_; (try clear hb); (try clear hb2); (try clear hk); (try clear hi); have hcz13_0 : w12.cell? ⟨gb143, 0, none⟩ = some (.int .i64 a0_0) := (blk_cell BK143.out 0).trans rfl; have hcz13_1 : w12.cell? ⟨gb143, 1, none⟩ = some (.int .i64 a0_1) := (blk_cell BK143.out 1).trans rfl; have hcz13_2 : w12.cell? ⟨gb143, 2, none⟩ = some (.int .i64 a0_2) := (blk_cell BK143.out 2).trans rfl; have hcz13_3 : w12.cell? ⟨gb143, 3, none⟩ = some (.bool true) := (blk_cell BK143.out 3).trans rfl; have hfz13_0 := blk_frozen BK143.out 0; have hfz13_1 := blk_frozen BK143.out 1; have hfz13_2 := blk_frozen BK143.out 2; have hfz13_3 := blk_frozen BK143.out 3) | (go_at_call 28; (with_reducible refine (kakugyoref07_Square.calls a0_0 t146 _ A5.out).mono ?_); rintro e w' ⟨rfl, ⟨nd, rfl⟩⟩; (try first | exact ⟨rfl, _, World.drewN_drewN _ _ _⟩ | exact ⟨rfl, _, Eq.trans (World.drewN_drewN _ _ _) (congrArg (World.drewN _) (Nat.add_assoc _ _ _))⟩)) | (go_at_call 28; (with_reducible refine (kakugyoref07_Square.calls a0_1 t147 _ A6.out).mono ?_); rintro e w' ⟨rfl, ⟨nd, rfl⟩⟩; (try first | exact ⟨rfl, _, World.drewN_drewN _ _ _⟩ | exact ⟨rfl, _, Eq.trans (World.drewN_drewN _ _ _) (congrArg (World.drewN _) (Nat.add_assoc _ _ _))⟩))); try go_wp2_with (first | ((with_reducible refine gate_dst (N := 1) rfl ?_); refine box_event ?hg (N := 1) ?hd (cs := #[.int .i64 a0_0, .int .i64 a0_1, .int .i64 a0_2, .bool true]) (t := 38) ?hr ?_; (case hd => rfl); (case hg => rfl); (case hr => first | (go_simp; done) | (go_simp; rfl)); intro gb143 hg w10 hbox hb; have n0_ := Aside0.mk (below_step (by repeat (first | (with_reducible first | exact HB.out | apply below_alloc | apply pw_below_drewN | apply below_drew1) | exact HB.out)) hb); have n1_ := Aside0.mk (hbox); have n2_ := Aside0.mk ((by rw [hg]; exact (below_size (by repeat (first | (with_reducible first | exact HB.out | apply below_alloc | apply pw_below_drewN | apply below_drew1) | exact HB.out))) : w.heap.size ≤ gb143)); have n3_ := Aside0.mk ((by rw [hg]; exact (below_size (by repeat (first | (with_reducible first | exact HB.out | apply below_alloc | apply pw_below_drewN | apply below_drew1) | exact HB.out))) : w.heap.size ≤ gb143)); clear HB; have HB := n0_; have BK143 := n1_; have GW143 := n2_; have GE143 := n3_; clear n0_ n1_ n2_ n3_; clear hb hbox hg; have hcz11_0 : w10.cell? ⟨gb143, 0, none⟩ = some (.int .i64 a0_0) := (blk_cell BK143.out 0).trans rfl; have hcz11_1 : w10.cell? ⟨gb143, 1, none⟩ = some (.int .i64 a0_1) := (blk_cell BK143.out 1).trans rfl; have hcz11_2 : w10.cell? ⟨gb143, 2, none⟩ = some (.int .i64 a0_2) := (blk_cell BK143.out 2).trans rfl; have hcz11_3 : w10.cell? ⟨gb143, 3, none⟩ = some (.bool true) := (blk_cell BK143.out 3).trans rfl; have hfz11_0 := blk_frozen BK143.out 0; have hfz11_1 := blk_frozen BK143.out 1; have hfz11_2 := blk_frozen BK143.out 2; have hfz11_3 := blk_frozen BK143.out 3) | (go_at_call 24; (with_reducible refine (kakugyoref07_Check.calls k a0_0 a0_1 a0_2 true t144 _ A2.out).mono ?_); rintro e w12 ⟨rfl, hb⟩; have n0_ := Aside0.mk (blk_below (g := gb143) (o := .cells #[.int .i64 a0_0, .int .i64 a0_1, .int .i64 a0_2, .bool true] 38 (0, 0)) (by (with_reducible repeat (first | refine blk_drewN ?_ _ | refine blk_drew ?_ | refine blk_alloc ?_ _)); exact BK143.out) hb); have n1_ := Aside0.mk (below_step (by repeat (first | (with_reducible first | exact HB.out | apply below_alloc | apply pw_below_drewN | apply below_drew1 | refine below_set ?_ GE143.out) | exact HB.out)) hb); clear BK143; clear HB; have BK143 := n0_; have HB := n1_; clear n0_ n1_; (try clear hb); (try clear hb2); (try clear hk); (try clear hi); have hcz13_0 : w12.cell? ⟨gb143, 0, none⟩ = some (.int .i64 a0_0) := (blk_cell BK143.out 0).trans rfl; have hcz13_1 : w12.cell? ⟨gb143, 1, none⟩ = some (.int .i64 a0_1) := (blk_cell BK143.out 1).trans rfl; have hcz13_2 : w12.cell? ⟨gb143, 2, none⟩ = some (.int .i64 a0_2) := (blk_cell BK143.out 2).trans rfl; have hcz13_3 : w12.cell? ⟨gb143, 3, none⟩ = some (.bool true) := (blk_cell BK143.out 3).trans rfl; have hfz13_0 := blk_frozen BK143.out 0; have hfz13_1 := blk_frozen BK143.out 1; have hfz13_2 := blk_frozen BK143.out 2; have hfz13_3 := blk_frozen BK143.out 3) | (go_at_call 28; (with_reducible refine (kakugyoref07_Square.calls a0_0 t146 _ A5.out).mono ?_); rintro e w' ⟨rfl, ⟨nd, rfl⟩⟩; (try first | exact ⟨rfl, _, World.drewN_drewN _ _ _⟩ | exact ⟨rfl, _, Eq.trans (World.drewN_drewN _ _ _) (congrArg (World.drewN _) (Nat.add_assoc _ _ _))⟩)) | (go_at_call 28; (with_reducible refine (kakugyoref07_Square.calls a0_1 t147 _ A6.out).mono ?_); rintro e w' ⟨rfl, ⟨nd, rfl⟩⟩; (try first | exact ⟨rfl, _, World.drewN_drewN _ _ _⟩ | exact ⟨rfl, _, Eq.trans (World.drewN_drewN _ _ _) (congrArg (World.drewN _) (Nat.add_assoc _ _ _))⟩))))
            go_ret
            exact ⟨by first | rfl | (simp [errW_none, errW_some] <;> rfl) | (simp [*, errW_none, errW_some] <;> rfl) | (simp [*, errW_none, errW_some]; generalize ByteArray.toList _ = q_; cases q_ <;> rfl), by repeat (first | (with_reducible first | exact HB.out | apply below_alloc | apply pw_below_drewN | apply below_drew1 | refine below_set ?_ GE143.out) | exact HB.out)⟩
          · rw [if_neg c9] at H
            exact absurd H (by simp)
        · replace c8 := Bool.eq_false_iff.mpr c8
          subst c8
          have H1 : (some (t146 ++ t147)) = some r := by rw [if_neg (show ¬ (false = true) by decide)] at H; exact H
          clear H
          have H := H1
          clear H1
          obtain rfl := Option.some.inj H
          go_enter Try.func22, Try.ntmps22
          go_wp2_with (first | ((with_reducible refine gate_dst (N := 1) rfl ?_); refine box_event ?hg (N := 1) ?hd (cs := #[.int .i64 a0_0, .int .i64 a0_1, .int .i64 a0_2, .bool false]) (t := 38) ?hr ?_; (case hd => rfl); (case hg => rfl); (case hr => first | (go_simp; done) | (go_simp; rfl)); intro gb143 hg w14 hbox hb; have n0_ := Aside0.mk (below_step (by repeat (first | (with_reducible first | exact HB.out | apply below_alloc | apply pw_below_drewN | apply below_drew1) | exact HB.out)) hb); have n1_ := Aside0.mk (hbox); have n2_ := Aside0.mk ((by rw [hg]; exact (below_size (by repeat (first | (with_reducible first | exact HB.out | apply below_alloc | apply pw_below_drewN | apply below_drew1) | exact HB.out))) : w.heap.size ≤ gb143)); have n3_ := Aside0.mk ((by rw [hg]; exact (below_size (by repeat (first | (with_reducible first | exact HB.out | apply below_alloc | apply pw_below_drewN | apply below_drew1) | exact HB.out))) : w.heap.size ≤ gb143)); clear HB; have HB := n0_; have BK143 := n1_; have GW143 := n2_; have GE143 := n3_; clear n0_ n1_ n2_ n3_; clear hb hbox hg; have hcz15_0 : w14.cell? ⟨gb143, 0, none⟩ = some (.int .i64 a0_0) := (blk_cell BK143.out 0).trans rfl; have hcz15_1 : w14.cell? ⟨gb143, 1, none⟩ = some (.int .i64 a0_1) := (blk_cell BK143.out 1).trans rfl; have hcz15_2 : w14.cell? ⟨gb143, 2, none⟩ = some (.int .i64 a0_2) := (blk_cell BK143.out 2).trans rfl; have hcz15_3 : w14.cell? ⟨gb143, 3, none⟩ = some (.bool false) := (blk_cell BK143.out 3).trans rfl; have hfz15_0 := blk_frozen BK143.out 0; have hfz15_1 := blk_frozen BK143.out 1; have hfz15_2 := blk_frozen BK143.out 2; have hfz15_3 := blk_frozen BK143.out 3) | (go_at_call 24; (with_reducible refine (kakugyoref07_Check.calls k a0_0 a0_1 a0_2 false t144 _ A2.out).mono ?_); rintro e w16 ⟨rfl, hb⟩; have n0_ := Aside0.mk (blk_below (g := gb143) (o := .cells #[.int .i64 a0_0, .int .i64 a0_1, .int .i64 a0_2, .bool false] 38 (0, 0)) (by (with_reducible repeat (first | refine blk_drewN ?_ _ | refine blk_drew ?_ | refine blk_alloc ?_ _)); exact BK143.out) hb); have n1_ := Aside0.mk (below_step (by repeat (first | (with_reducible first | exact HB.out | apply below_alloc | apply pw_below_drewN | apply below_drew1 | refine below_set ?_ GE143.out) | exact HB.out)) hb); clear BK143; clear HB; have BK143 := n0_; have HB := n1_; clear n0_ n1_; (try clear hb); (try clear hb2); (try clear hk); (try clear hi); have hcz17_0 : w16.cell? ⟨gb143, 0, none⟩ = some (.int .i64 a0_0) := (blk_cell BK143.out 0).trans rfl; have hcz17_1 : w16.cell? ⟨gb143, 1, none⟩ = some (.int .i64 a0_1) := (blk_cell BK143.out 1).trans rfl; have hcz17_2 : w16.cell? ⟨gb143, 2, none⟩ = some (.int .i64 a0_2) := (blk_cell BK143.out 2).trans rfl; have hcz17_3 : w16.cell? ⟨gb143, 3, none⟩ = some (.bool false) := (blk_cell BK143.out 3).trans rfl; have hfz17_0 := blk_frozen BK143.out 0; have hfz17_1 := blk_frozen BK143.out 1; have hfz17_2 := blk_frozen BK143.out 2; have hfz17_3 := blk_frozen BK143.out 3) | (go_at_call 28; (with_reducible refine (kakugyoref07_Square.calls a0_0 t146 _ A5.out).mono ?_); rintro e w' ⟨rfl, ⟨nd, rfl⟩⟩; (try first | exact ⟨rfl, _, World.drewN_drewN _ _ _⟩ | exact ⟨rfl, _, Eq.trans (World.drewN_drewN _ _ _) (congrArg (World.drewN _) (Nat.add_assoc _ _ _))⟩)) | (go_at_call 28; (with_reducible refine (kakugyoref07_Square.calls a0_1 t147 _ A6.out).mono ?_); rintro e w' ⟨rfl, ⟨nd, rfl⟩⟩; (try first | exact ⟨rfl, _, World.drewN_drewN _ _ _⟩ | exact ⟨rfl, _, Eq.trans (World.drewN_drewN _ _ _) (congrArg (World.drewN _) (Nat.add_assoc _ _ _))⟩)))
          repeat (go_quiet (first | ((with_reducible refine gate_dst (N := 1) rfl ?_); refine box_event ?hg (N := 1) ?hd (cs := #[.int .i64 a0_0, .int .i64 a0_1, .int .i64 a0_2, .bool false]) (t := 38) ?hr ?_; (case hd => rfl); (case hg => rfl); (case hr => first | (go_simp; done) | (go_simp; rfl)); intro gb143 hg w14 hbox hb; have n0_ := Aside0.mk (below_step (by repeat (first | (with_reducible first | exact HB.out | apply below_alloc | apply pw_below_drewN | apply below_drew1) | exact HB.out)) hb); have n1_ := Aside0.mk (hbox); have n2_ := Aside0.mk ((by rw [hg]; exact (below_size (by repeat (first | (with_reducible first | exact HB.out | apply below_alloc | apply pw_below_drewN | apply below_drew1) | exact HB.out))) : w.heap.size ≤ gb143)); have n3_ := Aside0.mk ((by rw [hg]; exact (below_size (by repeat (first | (with_reducible first | exact HB.out | apply below_alloc | apply pw_below_drewN | apply below_drew1) | exact HB.out))) : w.heap.size ≤ gb143)); clear HB; have HB := n0_; have BK143 := n1_; have GW143 := n2_; have GE143 := n3_; clear n0_ n1_ n2_ n3_; clear hb hbox hg; have hcz15_0 : w14.cell? ⟨gb143, 0, none⟩ = some (.int .i64 a0_0) := (blk_cell BK143.out 0).trans rfl; have hcz15_1 : w14.cell? ⟨gb143, 1, none⟩ = some (.int .i64 a0_1) := (blk_cell BK143.out 1).trans rfl; have hcz15_2 : w14.cell? ⟨gb143, 2, none⟩ = some (.int .i64 a0_2) := (blk_cell BK143.out 2).trans rfl; have hcz15_3 : w14.cell? ⟨gb143, 3, none⟩ = some (.bool false) := (blk_cell BK143.out 3).trans rfl; have hfz15_0 := blk_frozen BK143.out 0; have hfz15_1 := blk_frozen BK143.out 1; have hfz15_2 := blk_frozen BK143.out 2; have hfz15_3 := blk_frozen BK143.out 3) | (go_at_call 24; (with_reducible refine (kakugyoref07_Check.calls k a0_0 a0_1 a0_2 false t144 _ A2.out).mono ?_); rintro e w16 ⟨rfl, hb⟩; have n0_ := Aside0.mk (blk_below (g := gb143) (o := .cells #[.int .i64 a0_0, .int .i64 a0_1, .int .i64 a0_2, .bool false] 38 (0, 0)) (by (with_reducible repeat (first | refine blk_drewN ?_ _ | refine blk_drew ?_ | refine blk_alloc ?_ _)); exact BK143.out) hb); have n1_ := Aside0.mk (below_step (by repeat (first | (with_reducible first | exact HB.out | apply below_alloc | apply pw_below_drewN | apply below_drew1 | refine below_set ?_ GE143.out) | exact HB.out)) hb); clear BK143; clear HB; have BK143 := n0_; have HB := n1_; clear n0_ n1_; (try clear hb); (try clear hb2); (try clear hk); (try clear hi); have hcz17_0 : w16.cell? ⟨gb143, 0, none⟩ = some (.int .i64 a0_0) := (blk_cell BK143.out 0).trans rfl; have hcz17_1 : w16.cell? ⟨gb143, 1, none⟩ = some (.int .i64 a0_1) := (blk_cell BK143.out 1).trans rfl; have hcz17_2 : w16.cell? ⟨gb143, 2, none⟩ = some (.int .i64 a0_2) := (blk_cell BK143.out 2).trans rfl; have hcz17_3 : w16.cell? ⟨gb143, 3, none⟩ = some (.bool false) := (blk_cell BK143.out 3).trans rfl; have hfz17_0 := blk_frozen BK143.out 0; have hfz17_1 := blk_frozen BK143.out 1; have hfz17_2 := blk_frozen BK143.out 2; have hfz17_3 := blk_frozen BK143.out 3) | (go_at_call 28; (with_reducible refine (kakugyoref07_Square.calls a0_0 t146 _ A5.out).mono ?_); rintro e w' ⟨rfl, ⟨nd, rfl⟩⟩; (try first | exact ⟨rfl, _, World.drewN_drewN _ _ _⟩ | exact ⟨rfl, _, Eq.trans (World.drewN_drewN _ _ _) (congrArg (World.drewN _) (Nat.add_assoc _ _ _))⟩)) | (go_at_call 28; (with_reducible refine (kakugyoref07_Square.calls a0_1 t147 _ A6.out).mono ?_); rintro e w' ⟨rfl, ⟨nd, rfl⟩⟩; (try first | exact ⟨rfl, _, World.drewN_drewN _ _ _⟩ | exact ⟨rfl, _, Eq.trans (World.drewN_drewN _ _ _) (congrArg (World.drewN _) (Nat.add_assoc _ _ _))⟩))); try go_wp2_with (first | ((with_reducible refine gate_dst (N := 1) rfl ?_); refine box_event ?hg (N := 1) ?hd (cs := #[.int .i64 a0_0, .int .i64 a0_1, .int .i64 a0_2, .bool false]) (t := 38) ?hr ?_; (case hd => rfl); (case hg => rfl); (case hr => first | (go_simp; done) | (go_simp; rfl)); intro gb143 hg w14 hbox hb; have n0_ := Aside0.mk (below_step (by repeat (first | (with_reducible first | exact HB.out | apply below_alloc | apply pw_below_drewN | apply below_drew1) | exact HB.out)) hb); have n1_ := Aside0.mk (hbox); have n2_ := Aside0.mk ((by rw [hg]; exact (below_size (by repeat (first | (with_reducible first | exact HB.out | apply below_alloc | apply pw_below_drewN | apply below_drew1) | exact HB.out))) : w.heap.size ≤ gb143)); have n3_ := Aside0.mk ((by rw [hg]; exact (below_size (by repeat (first | (with_reducible first | exact HB.out | apply below_alloc | apply pw_below_drewN | apply below_drew1) | exact HB.out))) : w.heap.size ≤ gb143)); clear HB; have HB := n0_; have BK143 := n1_; have GW143 := n2_; have GE143 := n3_; clear n0_ n1_ n2_ n3_; clear hb hbox hg; have hcz15_0 : w14.cell? ⟨gb143, 0, none⟩ = some (.int .i64 a0_0) := (blk_cell BK143.out 0).trans rfl; have hcz15_1 : w14.cell? ⟨gb143, 1, none⟩ = some (.int .i64 a0_1) := (blk_cell BK143.out 1).trans rfl; have hcz15_2 : w14.cell? ⟨gb143, 2, none⟩ = some (.int .i64 a0_2) := (blk_cell BK143.out 2).trans rfl; have hcz15_3 : w14.cell? ⟨gb143, 3, none⟩ = some (.bool false) := (blk_cell BK143.out 3).trans rfl; have hfz15_0 := blk_frozen BK143.out 0; have hfz15_1 := blk_frozen BK143.out 1; have hfz15_2 := blk_frozen BK143.out 2; have hfz15_3 := blk_frozen BK143.out 3) | (go_at_call 24; (with_reducible refine (kakugyoref07_Check.calls k a0_0 a0_1 a0_2 false t144 _ A2.out).mono ?_); rintro e w16 ⟨rfl, hb⟩; have n0_ := Aside0.mk (blk_below (g := gb143) (o := .cells #[.int .i64 a0_0, .int .i64 a0_1, .int .i64 a0_2, .bool false] 38 (0, 0)) (by (with_reducible repeat (first | refine blk_drewN ?_ _ | refine blk_drew ?_ | refine blk_alloc ?_ _)); exact BK143.out) hb); have n1_ := Aside0.mk (below_step (by repeat (first | (with_reducible first | exact HB.out | apply below_alloc | apply pw_below_drewN | apply below_drew1 | refine below_set ?_ GE143.out) | exact HB.out)) hb); clear BK143; clear HB; have BK143 := n0_; have HB := n1_; clear n0_ n1_; (try clear hb); (try clear hb2); (try clear hk); (try clear hi); have hcz17_0 : w16.cell? ⟨gb143, 0, none⟩ = some (.int .i64 a0_0) := (blk_cell BK143.out 0).trans rfl; have hcz17_1 : w16.cell? ⟨gb143, 1, none⟩ = some (.int .i64 a0_1) := (blk_cell BK143.out 1).trans rfl; have hcz17_2 : w16.cell? ⟨gb143, 2, none⟩ = some (.int .i64 a0_2) := (blk_cell BK143.out 2).trans rfl; have hcz17_3 : w16.cell? ⟨gb143, 3, none⟩ = some (.bool false) := (blk_cell BK143.out 3).trans rfl; have hfz17_0 := blk_frozen BK143.out 0; have hfz17_1 := blk_frozen BK143.out 1; have hfz17_2 := blk_frozen BK143.out 2; have hfz17_3 := blk_frozen BK143.out 3) | (go_at_call 28; (with_reducible refine (kakugyoref07_Square.calls a0_0 t146 _ A5.out).mono ?_); rintro e w' ⟨rfl, ⟨nd, rfl⟩⟩; (try first | exact ⟨rfl, _, World.drewN_drewN _ _ _⟩ | exact ⟨rfl, _, Eq.trans (World.drewN_drewN _ _ _) (congrArg (World.drewN _) (Nat.add_assoc _ _ _))⟩)) | (go_at_call 28; (with_reducible refine (kakugyoref07_Square.calls a0_1 t147 _ A6.out).mono ?_); rintro e w' ⟨rfl, ⟨nd, rfl⟩⟩; (try first | exact ⟨rfl, _, World.drewN_drewN _ _ _⟩ | exact ⟨rfl, _, Eq.trans (World.drewN_drewN _ _ _) (congrArg (World.drewN _) (Nat.add_assoc _ _ _))⟩))))
          go_ret
          exact ⟨by first | rfl | (simp [errW_none, errW_some] <;> rfl) | (simp [*, errW_none, errW_some] <;> rfl) | (simp [*, errW_none, errW_some]; generalize ByteArray.toList _ = q_; cases q_ <;> rfl), by repeat (first | (with_reducible first | exact HB.out | apply below_alloc | apply pw_below_drewN | apply below_drew1 | refine below_set ?_ GE143.out) | exact HB.out)⟩
      · rw [if_neg c7] at H
        exact absurd H (by simp)
    · rw [if_neg c4] at H
      have c4b0 : (a0_2 == 0) = false := beq_eq_false_iff_ne.mpr c4
      have c4b1 : (a0_2 != 0) = true := bne_iff_ne.mpr c4
      obtain ⟨ji18, hji18⟩ : ∃ j_ : Int, (wrap64 (a0_2 - 1)) = j_ := ⟨_, rfl⟩
      replace H : (if 0 ≤ (ji18) then (if (ji18) ≤ a0_2 then (if a0_2 ≤ 7 then (if ((⟨#[80, 76, 78, 83, 71, 66, 82]⟩ : ByteArray).extract ((ji18) : Int).toNat (a0_2 : Int).toNat).size + 1 ≤ 9223372036854775807 then ((kakugyoref07_Square.f a0_1).bind fun t145 => (if (((⟨#[80, 76, 78, 83, 71, 66, 82]⟩ : ByteArray).extract ((ji18) : Int).toNat (a0_2 : Int).toNat) ++ (⟨#[42]⟩ : ByteArray)).size + t145.size ≤ 9223372036854775807 then (some ((((⟨#[80, 76, 78, 83, 71, 66, 82]⟩ : ByteArray).extract ((ji18) : Int).toNat (a0_2 : Int).toNat) ++ (⟨#[42]⟩ : ByteArray)) ++ t145)) else (none))) else (none)) else (none)) else (none)) else (none)) = some r := by first | (rw [hji18] at H; exact H) | (simp only [hji18] at H ⊢; exact H)
      (try rw [hji18] at A2)
      have hji18w : (IntKind.i64.wrap (a0_2 - 1)) = ji18 := (i64_w _).trans hji18
      by_cases c19 : 0 ≤ (ji18)
      · rw [if_pos c19] at H
        have c19b0 := eq_true c19
        have c19b1 : decide (0 ≤ (ji18)) = true := decide_eq_true c19
        clear c19
        by_cases c20 : (ji18) ≤ a0_2
        · rw [if_pos c20] at H
          have c20b0 := eq_true c20
          have c20b1 : decide ((ji18) ≤ a0_2) = true := decide_eq_true c20
          clear c20
          by_cases c21 : a0_2 ≤ 7
          · rw [if_pos c21] at H
            have c21b0 := eq_true c21
            have c21b1 : decide (a0_2 ≤ 7) = true := decide_eq_true c21
            clear c21
            by_cases c22 : ((⟨#[80, 76, 78, 83, 71, 66, 82]⟩ : ByteArray).extract ((ji18) : Int).toNat (a0_2 : Int).toNat).size + 1 ≤ 9223372036854775807
            · rw [if_pos c22] at H
              have c22b0 := eq_true c22
              have c22b1 : decide (((⟨#[80, 76, 78, 83, 71, 66, 82]⟩ : ByteArray).extract ((ji18) : Int).toNat (a0_2 : Int).toNat).size + 1 ≤ 9223372036854775807) = true := decide_eq_true c22
              try have c22b2 : (9223372036854775807 < ((⟨#[80, 76, 78, 83, 71, 66, 82]⟩ : ByteArray).extract ((ji18) : Int).toNat (a0_2 : Int).toNat).size + 1) = False := eq_false (Nat.not_lt.2 c22)
              try (have c22b3 := c22b2; simp only [ByteArray.size_append, ByteArray.size_extract, (show (⟨#[80, 76, 78, 83, 71, 66, 82]⟩ : ByteArray).size = 7 from rfl)] at c22b3)
              try (have c22b4 := c22b3; rw [Nat.min_eq_left] at c22b4; rotate_left; focus (simp [*]; done))
              replace H := Option.bind_eq_some_iff.mp H
              obtain ⟨t145, A230, H⟩ := H
              replace H : (if (((⟨#[80, 76, 78, 83, 71, 66, 82]⟩ : ByteArray).extract ((ji18) : Int).toNat (a0_2 : Int).toNat) ++ (⟨#[42]⟩ : ByteArray)).size + t145.size ≤ 9223372036854775807 then (some ((((⟨#[80, 76, 78, 83, 71, 66, 82]⟩ : ByteArray).extract ((ji18) : Int).toNat (a0_2 : Int).toNat) ++ (⟨#[42]⟩ : ByteArray)) ++ t145)) else (none)) = some r := H
              have A23 := Aside0.mk A230
              clear A230
              by_cases c24 : (((⟨#[80, 76, 78, 83, 71, 66, 82]⟩ : ByteArray).extract ((ji18) : Int).toNat (a0_2 : Int).toNat) ++ (⟨#[42]⟩ : ByteArray)).size + t145.size ≤ 9223372036854775807
              · rw [if_pos c24] at H
                have c24b0 := eq_true c24
                have c24b1 : decide ((((⟨#[80, 76, 78, 83, 71, 66, 82]⟩ : ByteArray).extract ((ji18) : Int).toNat (a0_2 : Int).toNat) ++ (⟨#[42]⟩ : ByteArray)).size + t145.size ≤ 9223372036854775807) = true := decide_eq_true c24
                try have c24b2 : (9223372036854775807 < (((⟨#[80, 76, 78, 83, 71, 66, 82]⟩ : ByteArray).extract ((ji18) : Int).toNat (a0_2 : Int).toNat) ++ (⟨#[42]⟩ : ByteArray)).size + t145.size) = False := eq_false (Nat.not_lt.2 c24)
                try (have c24b3 := c24b2; simp only [ByteArray.size_append, ByteArray.size_extract, (show (⟨#[42]⟩ : ByteArray).size = 1 from rfl), (show (⟨#[80, 76, 78, 83, 71, 66, 82]⟩ : ByteArray).size = 7 from rfl)] at c24b3)
                try (have c24b4 := c24b3; rw [Nat.min_eq_left] at c24b4; rotate_left; focus (simp [*]; done))
                obtain rfl := Option.some.inj H
                go_enter Try.func22, Try.ntmps22
                go_wp2_with (first | ((with_reducible refine gate_dst (N := 1) rfl ?_); refine box_event ?hg (N := 1) ?hd (cs := #[.int .i64 a0_0, .int .i64 a0_1, .int .i64 a0_2, .bool a0_3]) (t := 38) ?hr ?_; (case hd => rfl); (case hg => rfl); (case hr => first | (go_simp; done) | (go_simp; rfl)); intro gb143 hg w25 hbox hb; have n0_ := Aside0.mk (below_step (by repeat (first | (with_reducible first | exact HB.out | apply below_alloc | apply pw_below_drewN | apply below_drew1) | exact HB.out)) hb); have n1_ := Aside0.mk (hbox); have n2_ := Aside0.mk ((by rw [hg]; exact (below_size (by repeat (first | (with_reducible first | exact HB.out | apply below_alloc | apply pw_below_drewN | apply below_drew1) | exact HB.out))) : w.heap.size ≤ gb143)); have n3_ := Aside0.mk ((by rw [hg]; exact (below_size (by repeat (first | (with_reducible first | exact HB.out | apply below_alloc | apply pw_below_drewN | apply below_drew1) | exact HB.out))) : w.heap.size ≤ gb143)); clear HB; have HB := n0_; have BK143 := n1_; have GW143 := n2_; have GE143 := n3_; clear n0_ n1_ n2_ n3_; clear hb hbox hg; have hcz26_0 : w25.cell? ⟨gb143, 0, none⟩ = some (.int .i64 a0_0) := (blk_cell BK143.out 0).trans rfl; have hcz26_1 : w25.cell? ⟨gb143, 1, none⟩ = some (.int .i64 a0_1) := (blk_cell BK143.out 1).trans rfl; have hcz26_2 : w25.cell? ⟨gb143, 2, none⟩ = some (.int .i64 a0_2) := (blk_cell BK143.out 2).trans rfl; have hcz26_3 : w25.cell? ⟨gb143, 3, none⟩ = some (.bool a0_3) := (blk_cell BK143.out 3).trans rfl; have hfz26_0 := blk_frozen BK143.out 0; have hfz26_1 := blk_frozen BK143.out 1; have hfz26_2 := blk_frozen BK143.out 2; have hfz26_3 := blk_frozen BK143.out 3) | (go_at_call 24; (with_reducible refine (kakugyoref07_Check.calls k a0_0 a0_1 a0_2 a0_3 t144 _ A2.out).mono ?_); rintro e w27 ⟨rfl, hb⟩; have n0_ := Aside0.mk (blk_below (g := gb143) (o := .cells #[.int .i64 a0_0, .int .i64 a0_1, .int .i64 a0_2, .bool a0_3] 38 (0, 0)) (by (with_reducible repeat (first | refine blk_drewN ?_ _ | refine blk_drew ?_ | refine blk_alloc ?_ _)); exact BK143.out) hb); have n1_ := Aside0.mk (below_step (by repeat (first | (with_reducible first | exact HB.out | apply below_alloc | apply pw_below_drewN | apply below_drew1 | refine below_set ?_ GE143.out) | exact HB.out)) hb); clear BK143; clear HB; have BK143 := n0_; have HB := n1_; clear n0_ n1_; (try clear hb); (try clear hb2); (try clear hk); (try clear hi); have hcz28_0 : w27.cell? ⟨gb143, 0, none⟩ = some (.int .i64 a0_0) := (blk_cell BK143.out 0).trans rfl; have hcz28_1 : w27.cell? ⟨gb143, 1, none⟩ = some (.int .i64 a0_1) := (blk_cell BK143.out 1).trans rfl; have hcz28_2 : w27.cell? ⟨gb143, 2, none⟩ = some (.int .i64 a0_2) := (blk_cell BK143.out 2).trans rfl; have hcz28_3 : w27.cell? ⟨gb143, 3, none⟩ = some (.bool a0_3) := (blk_cell BK143.out 3).trans rfl; have hfz28_0 := blk_frozen BK143.out 0; have hfz28_1 := blk_frozen BK143.out 1; have hfz28_2 := blk_frozen BK143.out 2; have hfz28_3 := blk_frozen BK143.out 3) | (go_at_call 28; (with_reducible refine (kakugyoref07_Square.calls a0_1 t145 _ A23.out).mono ?_); rintro e w' ⟨rfl, ⟨nd, rfl⟩⟩; (try first | exact ⟨rfl, _, World.drewN_drewN _ _ _⟩ | exact ⟨rfl, _, Eq.trans (World.drewN_drewN _ _ _) (congrArg (World.drewN _) (Nat.add_assoc _ _ _))⟩)))
                repeat (go_quiet (first | ((with_reducible refine gate_dst (N := 1) rfl ?_); refine box_event ?hg (N := 1) ?hd (cs := #[.int .i64 a0_0, .int .i64 a0_1, .int .i64 a0_2, .bool a0_3]) (t := 38) ?hr ?_; (case hd => rfl); (case hg => rfl); (case hr => first | (go_simp; done) | (go_simp; rfl)); intro gb143 hg w25 hbox hb; have n0_ := Aside0.mk (below_step (by repeat (first | (with_reducible first | exact HB.out | apply below_alloc | apply pw_below_drewN | apply below_drew1) | exact HB.out)) hb); have n1_ := Aside0.mk (hbox); have n2_ := Aside0.mk ((by rw [hg]; exact (below_size (by repeat (first | (with_reducible first | exact HB.out | apply below_alloc | apply pw_below_drewN | apply below_drew1) | exact HB.out))) : w.heap.size ≤ gb143)); have n3_ := Aside0.mk ((by rw [hg]; exact (below_size (by repeat (first | (with_reducible first | exact HB.out | apply below_alloc | apply pw_below_drewN | apply below_drew1) | exact HB.out))) : w.heap.size ≤ gb143)); clear HB; have HB := n0_; have BK143 := n1_; have GW143 := n2_; have GE143 := n3_; clear n0_ n1_ n2_ n3_; clear hb hbox hg; have hcz26_0 : w25.cell? ⟨gb143, 0, none⟩ = some (.int .i64 a0_0) := (blk_cell BK143.out 0).trans rfl; have hcz26_1 : w25.cell? ⟨gb143, 1, none⟩ = some (.int .i64 a0_1) := (blk_cell BK143.out 1).trans rfl; have hcz26_2 : w25.cell? ⟨gb143, 2, none⟩ = some (.int .i64 a0_2) := (blk_cell BK143.out 2).trans rfl; have hcz26_3 : w25.cell? ⟨gb143, 3, none⟩ = some (.bool a0_3) := (blk_cell BK143.out 3).trans rfl; have hfz26_0 := blk_frozen BK143.out 0; have hfz26_1 := blk_frozen BK143.out 1; have hfz26_2 := blk_frozen BK143.out 2; have hfz26_3 := blk_frozen BK143.out 3) | (go_at_call 24; (with_reducible refine (kakugyoref07_Check.calls k a0_0 a0_1 a0_2 a0_3 t144 _ A2.out).mono ?_); rintro e w27 ⟨rfl, hb⟩; have n0_ := Aside0.mk (blk_below (g := gb143) (o := .cells #[.int .i64 a0_0, .int .i64 a0_1, .int .i64 a0_2, .bool a0_3] 38 (0, 0)) (by (with_reducible repeat (first | refine blk_drewN ?_ _ | refine blk_drew ?_ | refine blk_alloc ?_ _)); exact BK143.out) hb); have n1_ := Aside0.mk (below_step (by repeat (first | (with_reducible first | exact HB.out | apply below_alloc | apply pw_below_drewN | apply below_drew1 | refine below_set ?_ GE143.out) | exact HB.out)) hb); clear BK143; clear HB; have BK143 := n0_; have HB := n1_; clear n0_ n1_; (try clear hb); (try clear hb2); (try clear hk); (try clear hi); have hcz28_0 : w27.cell? ⟨gb143, 0, none⟩ = some (.int .i64 a0_0) := (blk_cell BK143.out 0).trans rfl; have hcz28_1 : w27.cell? ⟨gb143, 1, none⟩ = some (.int .i64 a0_1) := (blk_cell BK143.out 1).trans rfl; have hcz28_2 : w27.cell? ⟨gb143, 2, none⟩ = some (.int .i64 a0_2) := (blk_cell BK143.out 2).trans rfl; have hcz28_3 : w27.cell? ⟨gb143, 3, none⟩ = some (.bool a0_3) := (blk_cell BK143.out 3).trans rfl; have hfz28_0 := blk_frozen BK143.out 0; have hfz28_1 := blk_frozen BK143.out 1; have hfz28_2 := blk_frozen BK143.out 2; have hfz28_3 := blk_frozen BK143.out 3) | (go_at_call 28; (with_reducible refine (kakugyoref07_Square.calls a0_1 t145 _ A23.out).mono ?_); rintro e w' ⟨rfl, ⟨nd, rfl⟩⟩; (try first | exact ⟨rfl, _, World.drewN_drewN _ _ _⟩ | exact ⟨rfl, _, Eq.trans (World.drewN_drewN _ _ _) (congrArg (World.drewN _) (Nat.add_assoc _ _ _))⟩))); try go_wp2_with (first | ((with_reducible refine gate_dst (N := 1) rfl ?_); refine box_event ?hg (N := 1) ?hd (cs := #[.int .i64 a0_0, .int .i64 a0_1, .int .i64 a0_2, .bool a0_3]) (t := 38) ?hr ?_; (case hd => rfl); (case hg => rfl); (case hr => first | (go_simp; done) | (go_simp; rfl)); intro gb143 hg w25 hbox hb; have n0_ := Aside0.mk (below_step (by repeat (first | (with_reducible first | exact HB.out | apply below_alloc | apply pw_below_drewN | apply below_drew1) | exact HB.out)) hb); have n1_ := Aside0.mk (hbox); have n2_ := Aside0.mk ((by rw [hg]; exact (below_size (by repeat (first | (with_reducible first | exact HB.out | apply below_alloc | apply pw_below_drewN | apply below_drew1) | exact HB.out))) : w.heap.size ≤ gb143)); have n3_ := Aside0.mk ((by rw [hg]; exact (below_size (by repeat (first | (with_reducible first | exact HB.out | apply below_alloc | apply pw_below_drewN | apply below_drew1) | exact HB.out))) : w.heap.size ≤ gb143)); clear HB; have HB := n0_; have BK143 := n1_; have GW143 := n2_; have GE143 := n3_; clear n0_ n1_ n2_ n3_; clear hb hbox hg; have hcz26_0 : w25.cell? ⟨gb143, 0, none⟩ = some (.int .i64 a0_0) := (blk_cell BK143.out 0).trans rfl; have hcz26_1 : w25.cell? ⟨gb143, 1, none⟩ = some (.int .i64 a0_1) := (blk_cell BK143.out 1).trans rfl; have hcz26_2 : w25.cell? ⟨gb143, 2, none⟩ = some (.int .i64 a0_2) := (blk_cell BK143.out 2).trans rfl; have hcz26_3 : w25.cell? ⟨gb143, 3, none⟩ = some (.bool a0_3) := (blk_cell BK143.out 3).trans rfl; have hfz26_0 := blk_frozen BK143.out 0; have hfz26_1 := blk_frozen BK143.out 1; have hfz26_2 := blk_frozen BK143.out 2; have hfz26_3 := blk_frozen BK143.out 3) | (go_at_call 24; (with_reducible refine (kakugyoref07_Check.calls k a0_0 a0_1 a0_2 a0_3 t144 _ A2.out).mono ?_); rintro e w27 ⟨rfl, hb⟩; have n0_ := Aside0.mk (blk_below (g := gb143) (o := .cells #[.int .i64 a0_0, .int .i64 a0_1, .int .i64 a0_2, .bool a0_3] 38 (0, 0)) (by (with_reducible repeat (first | refine blk_drewN ?_ _ | refine blk_drew ?_ | refine blk_alloc ?_ _)); exact BK143.out) hb); have n1_ := Aside0.mk (below_step (by repeat (first | (with_reducible first | exact HB.out | apply below_alloc | apply pw_below_drewN | apply below_drew1 | refine below_set ?_ GE143.out) | exact HB.out)) hb); clear BK143; clear HB; have BK143 := n0_; have HB := n1_; clear n0_ n1_; (try clear hb); (try clear hb2); (try clear hk); (try clear hi); have hcz28_0 : w27.cell? ⟨gb143, 0, none⟩ = some (.int .i64 a0_0) := (blk_cell BK143.out 0).trans rfl; have hcz28_1 : w27.cell? ⟨gb143, 1, none⟩ = some (.int .i64 a0_1) := (blk_cell BK143.out 1).trans rfl; have hcz28_2 : w27.cell? ⟨gb143, 2, none⟩ = some (.int .i64 a0_2) := (blk_cell BK143.out 2).trans rfl; have hcz28_3 : w27.cell? ⟨gb143, 3, none⟩ = some (.bool a0_3) := (blk_cell BK143.out 3).trans rfl; have hfz28_0 := blk_frozen BK143.out 0; have hfz28_1 := blk_frozen BK143.out 1; have hfz28_2 := blk_frozen BK143.out 2; have hfz28_3 := blk_frozen BK143.out 3) | (go_at_call 28; (with_reducible refine (kakugyoref07_Square.calls a0_1 t145 _ A23.out).mono ?_); rintro e w' ⟨rfl, ⟨nd, rfl⟩⟩; (try first | exact ⟨rfl, _, World.drewN_drewN _ _ _⟩ | exact ⟨rfl, _, Eq.trans (World.drewN_drewN _ _ _) (congrArg (World.drewN _) (Nat.add_assoc _ _ _))⟩))))
                go_ret
                exact ⟨by first | rfl | (simp [errW_none, errW_some] <;> rfl) | (simp only [← hji18]; first | rfl | (simp [errW_none, errW_some] <;> rfl)) | (simp [*, errW_none, errW_some] <;> rfl) | (simp [*, errW_none, errW_some]; generalize ByteArray.toList _ = q_; cases q_ <;> rfl), by repeat (first | (with_reducible first | exact HB.out | apply below_alloc | apply pw_below_drewN | apply below_drew1 | refine below_set ?_ GE143.out) | exact HB.out)⟩
              · rw [if_neg c24] at H
                exact absurd H (by simp)
            · rw [if_neg c22] at H
              exact absurd H (by simp)
          · rw [if_neg c21] at H
            exact absurd H (by simp)
        · rw [if_neg c20] at H
          exact absurd H (by simp)
      · rw [if_neg c19] at H
        exact absurd H (by simp)
  · rw [if_neg c3] at H
    have c3b0 : (t144 == 0) = false := beq_eq_false_iff_ne.mpr c3
    have c3b1 : (t144 != 0) = true := bne_iff_ne.mpr c3
    obtain rfl := Option.some.inj H
    go_enter Try.func22, Try.ntmps22
    go_wp2_with (first | ((with_reducible refine gate_dst (N := 1) rfl ?_); refine box_event ?hg (N := 1) ?hd (cs := #[.int .i64 a0_0, .int .i64 a0_1, .int .i64 a0_2, .bool a0_3]) (t := 38) ?hr ?_; (case hd => rfl); (case hg => rfl); (case hr => first | (go_simp; done) | (go_simp; rfl)); intro gb143 hg w29 hbox hb; have n0_ := Aside0.mk (below_step (by repeat (first | (with_reducible first | exact HB.out | apply below_alloc | apply pw_below_drewN | apply below_drew1) | exact HB.out)) hb); have n1_ := Aside0.mk (hbox); have n2_ := Aside0.mk ((by rw [hg]; exact (below_size (by repeat (first | (with_reducible first | exact HB.out | apply below_alloc | apply pw_below_drewN | apply below_drew1) | exact HB.out))) : w.heap.size ≤ gb143)); have n3_ := Aside0.mk ((by rw [hg]; exact (below_size (by repeat (first | (with_reducible first | exact HB.out | apply below_alloc | apply pw_below_drewN | apply below_drew1) | exact HB.out))) : w.heap.size ≤ gb143)); clear HB; have HB := n0_; have BK143 := n1_; have GW143 := n2_; have GE143 := n3_; clear n0_ n1_ n2_ n3_; clear hb hbox hg; have hcz30_0 : w29.cell? ⟨gb143, 0, none⟩ = some (.int .i64 a0_0) := (blk_cell BK143.out 0).trans rfl; have hcz30_1 : w29.cell? ⟨gb143, 1, none⟩ = some (.int .i64 a0_1) := (blk_cell BK143.out 1).trans rfl; have hcz30_2 : w29.cell? ⟨gb143, 2, none⟩ = some (.int .i64 a0_2) := (blk_cell BK143.out 2).trans rfl; have hcz30_3 : w29.cell? ⟨gb143, 3, none⟩ = some (.bool a0_3) := (blk_cell BK143.out 3).trans rfl; have hfz30_0 := blk_frozen BK143.out 0; have hfz30_1 := blk_frozen BK143.out 1; have hfz30_2 := blk_frozen BK143.out 2; have hfz30_3 := blk_frozen BK143.out 3) | (go_at_call 24; (with_reducible refine (kakugyoref07_Check.calls k a0_0 a0_1 a0_2 a0_3 t144 _ A2.out).mono ?_); rintro e w31 ⟨rfl, hb⟩; have n0_ := Aside0.mk (blk_below (g := gb143) (o := .cells #[.int .i64 a0_0, .int .i64 a0_1, .int .i64 a0_2, .bool a0_3] 38 (0, 0)) (by (with_reducible repeat (first | refine blk_drewN ?_ _ | refine blk_drew ?_ | refine blk_alloc ?_ _)); exact BK143.out) hb); have n1_ := Aside0.mk (below_step (by repeat (first | (with_reducible first | exact HB.out | apply below_alloc | apply pw_below_drewN | apply below_drew1 | refine below_set ?_ GE143.out) | exact HB.out)) hb); clear BK143; clear HB; have BK143 := n0_; have HB := n1_; clear n0_ n1_; (try clear hb); (try clear hb2); (try clear hk); (try clear hi)))
    repeat (go_quiet (first | ((with_reducible refine gate_dst (N := 1) rfl ?_); refine box_event ?hg (N := 1) ?hd (cs := #[.int .i64 a0_0, .int .i64 a0_1, .int .i64 a0_2, .bool a0_3]) (t := 38) ?hr ?_; (case hd => rfl); (case hg => rfl); (case hr => first | (go_simp; done) | (go_simp; rfl)); intro gb143 hg w29 hbox hb; have n0_ := Aside0.mk (below_step (by repeat (first | (with_reducible first | exact HB.out | apply below_alloc | apply pw_below_drewN | apply below_drew1) | exact HB.out)) hb); have n1_ := Aside0.mk (hbox); have n2_ := Aside0.mk ((by rw [hg]; exact (below_size (by repeat (first | (with_reducible first | exact HB.out | apply below_alloc | apply pw_below_drewN | apply below_drew1) | exact HB.out))) : w.heap.size ≤ gb143)); have n3_ := Aside0.mk ((by rw [hg]; exact (below_size (by repeat (first | (with_reducible first | exact HB.out | apply below_alloc | apply pw_below_drewN | apply below_drew1) | exact HB.out))) : w.heap.size ≤ gb143)); clear HB; have HB := n0_; have BK143 := n1_; have GW143 := n2_; have GE143 := n3_; clear n0_ n1_ n2_ n3_; clear hb hbox hg; have hcz30_0 : w29.cell? ⟨gb143, 0, none⟩ = some (.int .i64 a0_0) := (blk_cell BK143.out 0).trans rfl; have hcz30_1 : w29.cell? ⟨gb143, 1, none⟩ = some (.int .i64 a0_1) := (blk_cell BK143.out 1).trans rfl; have hcz30_2 : w29.cell? ⟨gb143, 2, none⟩ = some (.int .i64 a0_2) := (blk_cell BK143.out 2).trans rfl; have hcz30_3 : w29.cell? ⟨gb143, 3, none⟩ = some (.bool a0_3) := (blk_cell BK143.out 3).trans rfl; have hfz30_0 := blk_frozen BK143.out 0; have hfz30_1 := blk_frozen BK143.out 1; have hfz30_2 := blk_frozen BK143.out 2; have hfz30_3 := blk_frozen BK143.out 3) | (go_at_call 24; (with_reducible refine (kakugyoref07_Check.calls k a0_0 a0_1 a0_2 a0_3 t144 _ A2.out).mono ?_); rintro e w31 ⟨rfl, hb⟩; have n0_ := Aside0.mk (blk_below (g := gb143) (o := .cells #[.int .i64 a0_0, .int .i64 a0_1, .int .i64 a0_2, .bool a0_3] 38 (0, 0)) (by (with_reducible repeat (first | refine blk_drewN ?_ _ | refine blk_drew ?_ | refine blk_alloc ?_ _)); exact BK143.out) hb); have n1_ := Aside0.mk (below_step (by repeat (first | (with_reducible first | exact HB.out | apply below_alloc | apply pw_below_drewN | apply below_drew1 | refine below_set ?_ GE143.out) | exact HB.out)) hb); clear BK143; clear HB; have BK143 := n0_; have HB := n1_; clear n0_ n1_; (try clear hb); (try clear hb2); (try clear hk); (try clear hi))); try go_wp2_with (first | ((with_reducible refine gate_dst (N := 1) rfl ?_); refine box_event ?hg (N := 1) ?hd (cs := #[.int .i64 a0_0, .int .i64 a0_1, .int .i64 a0_2, .bool a0_3]) (t := 38) ?hr ?_; (case hd => rfl); (case hg => rfl); (case hr => first | (go_simp; done) | (go_simp; rfl)); intro gb143 hg w29 hbox hb; have n0_ := Aside0.mk (below_step (by repeat (first | (with_reducible first | exact HB.out | apply below_alloc | apply pw_below_drewN | apply below_drew1) | exact HB.out)) hb); have n1_ := Aside0.mk (hbox); have n2_ := Aside0.mk ((by rw [hg]; exact (below_size (by repeat (first | (with_reducible first | exact HB.out | apply below_alloc | apply pw_below_drewN | apply below_drew1) | exact HB.out))) : w.heap.size ≤ gb143)); have n3_ := Aside0.mk ((by rw [hg]; exact (below_size (by repeat (first | (with_reducible first | exact HB.out | apply below_alloc | apply pw_below_drewN | apply below_drew1) | exact HB.out))) : w.heap.size ≤ gb143)); clear HB; have HB := n0_; have BK143 := n1_; have GW143 := n2_; have GE143 := n3_; clear n0_ n1_ n2_ n3_; clear hb hbox hg; have hcz30_0 : w29.cell? ⟨gb143, 0, none⟩ = some (.int .i64 a0_0) := (blk_cell BK143.out 0).trans rfl; have hcz30_1 : w29.cell? ⟨gb143, 1, none⟩ = some (.int .i64 a0_1) := (blk_cell BK143.out 1).trans rfl; have hcz30_2 : w29.cell? ⟨gb143, 2, none⟩ = some (.int .i64 a0_2) := (blk_cell BK143.out 2).trans rfl; have hcz30_3 : w29.cell? ⟨gb143, 3, none⟩ = some (.bool a0_3) := (blk_cell BK143.out 3).trans rfl; have hfz30_0 := blk_frozen BK143.out 0; have hfz30_1 := blk_frozen BK143.out 1; have hfz30_2 := blk_frozen BK143.out 2; have hfz30_3 := blk_frozen BK143.out 3) | (go_at_call 24; (with_reducible refine (kakugyoref07_Check.calls k a0_0 a0_1 a0_2 a0_3 t144 _ A2.out).mono ?_); rintro e w31 ⟨rfl, hb⟩; have n0_ := Aside0.mk (blk_below (g := gb143) (o := .cells #[.int .i64 a0_0, .int .i64 a0_1, .int .i64 a0_2, .bool a0_3] 38 (0, 0)) (by (with_reducible repeat (first | refine blk_drewN ?_ _ | refine blk_drew ?_ | refine blk_alloc ?_ _)); exact BK143.out) hb); have n1_ := Aside0.mk (below_step (by repeat (first | (with_reducible first | exact HB.out | apply below_alloc | apply pw_below_drewN | apply below_drew1 | refine below_set ?_ GE143.out) | exact HB.out)) hb); clear BK143; clear HB; have BK143 := n0_; have HB := n1_; clear n0_ n1_; (try clear hb); (try clear hb2); (try clear hk); (try clear hi))))
    go_ret
    exact ⟨by first | rfl | (simp [errW_none, errW_some] <;> rfl) | (simp [*, errW_none, errW_some] <;> rfl) | (simp [*, errW_none, errW_some]; generalize ByteArray.toList _ = q_; cases q_ <;> rfl), by repeat (first | (with_reducible first | exact HB.out | apply below_alloc | apply pw_below_drewN | apply below_drew1 | refine below_set ?_ GE143.out) | exact HB.out)⟩

end Go.Proofs.Ytmoeodcmfjnihab.Pa
