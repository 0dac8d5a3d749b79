-- Printed by a program of this session: the kit's printer, with contracts of this session's own among its functions.
import Derived.Test.YtnmfkhnddnohjaaPax0
import Derived.Test.YtnmfkhnddnohjaaPax1
namespace Go.Proofs.Ytnmfkhnddnohjaa.Pa
open Go.RowKit Go.Proofs.YtnmfkhnddnohjaaW.PrintWords Go.Proofs.YtnmfkhnddnohjaaW.PrintLast Go.Proofs.YtnmfkhnddnohjaaW.PrintMore
attribute [local go_sem] max2_int min2_int max_two min_two max_three min_three max_four min_four   -- for this text's walks alone
set_option linter.unusedVariables false
set_option linter.unusedSimpArgs false

/-! ### kakugyoref02_Small: function 28 -/
def kakugyoref02_Small.l0 : Nat → ByteArray → ByteArray → Int → Option (ByteArray)
  | 0, _, _, _ => none
  | k + 1, x0, x3, x4 => if x4 < (x0.size : Int) then (if 0 ≤ x4 then (if (bt x0 x4) ≥ 65 then (if (bt x0 x4) ≤ 90 then ((some (([((bt x0 x4) + 32) % 256] : List Int) : List Int)).bind fun y123 => (if x3.size + (strOfNums y123).size ≤ 9223372036854775807 then (kakugyoref02_Small.l0 k x0 (x3 ++ (strOfNums y123)) (wrap64 (x4 + 1))) else (none))) else ((some (([bt x0 x4] : List Int) : List Int)).bind fun y126 => (if x3.size + (strOfNums y126).size ≤ 9223372036854775807 then (kakugyoref02_Small.l0 k x0 (x3 ++ (strOfNums y126)) (wrap64 (x4 + 1))) else (none)))) else ((some (([bt x0 x4] : List Int) : List Int)).bind fun y129 => (if x3.size + (strOfNums y129).size ≤ 9223372036854775807 then (kakugyoref02_Small.l0 k x0 (x3 ++ (strOfNums y129)) (wrap64 (x4 + 1))) else (none)))) else (none)) else (some x3)
def kakugyoref02_Small.f (k : Nat) (a0 : ByteArray) : Option (ByteArray) := kakugyoref02_Small.l0 k a0 (⟨#[]⟩ : ByteArray) 0
theorem kakugyoref02_Small.mono_l : ∀ k, (∀ y0 y1 y2, LeO (kakugyoref02_Small.l0 k y0 y1 y2) (kakugyoref02_Small.l0 (k + 1) y0 y1 y2))
  | 0 => fun _ _ _ r h => by simp [kakugyoref02_Small.l0] at h
  | k + 1 => by
    have ih0 := kakugyoref02_Small.mono_l k
    · intro y0 y1 y2
      unfold kakugyoref02_Small.l0
      repeat' first
      | (with_reducible exact ih0 _ _ _)
      | (with_reducible exact LeO.refl _)
      | (with_reducible exact LeO.none _)
      | (with_reducible refine LeO.ite ?_ ?_)
      | (with_reducible refine LeO.bind ?_ (fun _ => ?_))
      | exact ih0 _ _ _
      | exact LeO.none _
      | refine LeO.ite ?_ ?_
      | refine LeO.bind ?_ (fun _ => ?_)
theorem kakugyoref02_Small.mono : ∀ a0 k, LeO (kakugyoref02_Small.f k a0) (kakugyoref02_Small.f (k + 1) a0) := by
  intro a0 k
  have ih0 := kakugyoref02_Small.mono_l k
  unfold kakugyoref02_Small.f
  repeat' first
      | (with_reducible exact ih0 _ _ _)
      | (with_reducible exact LeO.refl _)
      | (with_reducible exact LeO.none _)
      | (with_reducible refine LeO.ite ?_ ?_)
      | (with_reducible refine LeO.bind ?_ (fun _ => ?_))
      | exact ih0 _ _ _
      | exact LeO.none _
      | refine LeO.ite ?_ ?_
      | refine LeO.bind ?_ (fun _ => ?_)
set_option maxHeartbeats 8000000 in
set_option maxRecDepth 100000 in
theorem kakugyoref02_Small.calls (k : Nat) (a0 : ByteArray) (r : ByteArray) (w : World) (h : kakugyoref02_Small.f k a0 = some r) :
    Calls Try.prog 28 #[.string a0] w fun e w' => e = .returned (.string r) ∧ Below w.heap.size w w' := by
  have HB := Aside0.mk (Below.refl w.heap.size w)
  have H : (kakugyoref02_Small.l0 k a0 (⟨#[]⟩ : ByteArray) 0) = some r := h
  clear h
  have H' := Aside0.mk H
  clear H
  go_enter Try.func28, Try.ntmps28
  go_wp2
  go_loopg [3, 4] k (fun kq v3 v4 w' => ∃ (x3_1 : ByteArray) (x4_1 : Int), v3 = .string x3_1 ∧ v4 = .int .i64 x4_1 ∧ Aside0 (kakugyoref02_Small.l0 kq a0 x3_1 x4_1 = some r) ∧ Aside0 (kq ≤ k) ∧ Aside0 (Below w.heap.size w w'))
  case atStart => exact ⟨((⟨#[]⟩ : ByteArray)), (0), (by first | rfl | (simp; done) | (simp [*]; done)), (by first | rfl | (simp; done) | (simp [*]; done)), H', ⟨Nat.le_refl _⟩, ⟨by repeat (first | (with_reducible first | exact HB.out | apply below_alloc | apply pw_below_drewN | apply below_drew1) | exact HB.out)⟩⟩
  case round =>
    clear H'
    obtain ⟨x3_1, x4_1, rfl, rfl, HA, HK1, HB⟩ := hrel
    cases gk with
    | zero => exact absurd HA.out (by simp [kakugyoref02_Small.l0])
    | succ k1 =>
      have H := HA.out
      clear HA
      simp only [kakugyoref02_Small.l0] at H
      by_cases c2 : x4_1 < (a0.size : Int)
      · rw [if_pos c2] at H
        have c2b0 : decide (x4_1 < (a0.size : Int)) = true := decide_eq_true c2
        clear c2
        by_cases c3 : 0 ≤ x4_1
        · rw [if_pos c3] at H
          have c3b0 : decide (0 ≤ x4_1) = true := decide_eq_true c3
          clear c3
          by_cases c5 : (bt a0 x4_1) ≥ 65
          · rw [if_pos c5] at H
            have c5b0 : decide (65 ≤ (bt a0 x4_1)) = true := decide_eq_true c5
            clear c5
            by_cases c6 : (bt a0 x4_1) ≤ 90
            · rw [if_pos c6] at H
              have c6b0 : decide ((bt a0 x4_1) ≤ 90) = true := decide_eq_true c6
              clear c6
              obtain ⟨y123, hy123⟩ : ∃ y_ : List Int, y_ = (([((bt a0 x4_1) + 32) % 256] : List Int)) := ⟨_, rfl⟩
              replace H : (if x3_1.size + (strOfNums y123).size ≤ 9223372036854775807 then (kakugyoref02_Small.l0 k1 a0 (x3_1 ++ (strOfNums y123)) (wrap64 (x4_1 + 1))) else (none)) = some r := by first | (rw [hy123]; with_reducible exact H) | (have H2_ := (Option.bind_some _ _).symm.trans H; rw [hy123]; with_reducible exact H2_) | (have H2_ := (Option.bind_some _ _).symm.trans H; with_reducible exact H2_) | with_reducible exact H | (rw [hy123]; exact H) | exact H
              have Ny123 := Aside0.mk hy123
              clear hy123
              by_cases c7 : x3_1.size + (strOfNums y123).size ≤ 9223372036854775807
              · rw [if_pos c7] at H
                have c7b0 := eq_true c7
                have c7b1 : decide (x3_1.size + (strOfNums y123).size ≤ 9223372036854775807) = true := decide_eq_true c7
                try have c7b2 : (9223372036854775807 < x3_1.size + (strOfNums y123).size) = False := eq_false (Nat.not_lt.2 c7)
                have H' := Aside0.mk H
                clear H
                have p4 : 0 ≤ (x4_1 : Int) := of_decide_eq_true (by first | (with_reducible assumption) | assumption)
                have q4 : x4_1 < (a0.size : Int) := of_decide_eq_true (by first | (with_reducible assumption) | assumption)
                have hx4 := bt_at a0 x4_1
                replace p4 := eq_true p4
                replace q4 := eq_true q4
                go_wp2_with (first | ((with_reducible refine gate_dst (N := 25) rfl ?_); refine Kd.R_lit (Kd.int .u8) _ 5 ?hg (N := 25) ?hd (xs := ([((bt a0 x4_1) + 32) % 256] : List Int)) (inner := [.int .u8 (((bt a0 x4_1) + 32) % 256)]) (ok := fun _ => True) (okp := fun _ => True) ?hr ?hp (fun _ hk => hk) trivial (Below.refl _ _) (Nat.le_refl _) (by simp) ?_; (case hd => rfl); (case hg => rfl); (case hr => first | (go_simp; done) | (go_simp; rfl)); (case hp => exact (Reps.one (show Kd.M (Kd.int .u8) _ _ _ (((bt a0 x4_1) + 32) % 256) [.int .u8 (((bt a0 x4_1) + 32) % 256)] from rfl) (Reps.none _ _))); intro v124 w8 ho9 hb hg_ hnew_; clear hg_ hnew_; (first | rw [← Ny123.out] at ho9 | (simp only [Int.reduceToNat] at ho9; rw [← Ny123.out] at ho9)); have n0_ := Aside0.mk (Kd.R_lower ho9 (below_size (by repeat (first | (with_reducible first | exact HB.out | apply below_alloc | apply pw_below_drewN | apply below_drew1) | exact HB.out)))); have n1_ := Aside0.mk (below_step (by repeat (first | (with_reducible first | exact HB.out | apply below_alloc | apply pw_below_drewN | apply below_drew1) | exact HB.out)) hb); clear HB; have HO125 := n0_; have HB := n1_; clear n0_ n1_; clear hb ho9; have hcv10 := own_string (P := Try.prog) Try.underlying41 Try.underlying5 Try.underlying9 (Kd.own_of_R HO125.out)))
                go_roundg k1
                case measure => have := HK1.out; omega
                case rel => exact ⟨(x3_1 ++ (strOfNums y123)), (wrap64 (x4_1 + 1)), (by first | rfl | (simp; done) | (simp [*]; done)), (by first | rfl | (simp; done) | (simp [*]; done)), H', ⟨by have := HK1.out; omega⟩, ⟨by repeat (first | (with_reducible first | exact HB.out | apply below_alloc | apply pw_below_drewN | apply below_drew1) | exact HB.out)⟩⟩
              · rw [if_neg c7] at H
                exact absurd H (by simp)
            · rw [if_neg c6] at H
              have c6b0 : decide ((bt a0 x4_1) ≤ 90) = false := decide_eq_false c6
              clear c6
              obtain ⟨y126, hy126⟩ : ∃ y_ : List Int, y_ = (([bt a0 x4_1] : List Int)) := ⟨_, rfl⟩
              replace H : (if x3_1.size + (strOfNums y126).size ≤ 9223372036854775807 then (kakugyoref02_Small.l0 k1 a0 (x3_1 ++ (strOfNums y126)) (wrap64 (x4_1 + 1))) else (none)) = some r := by first | (rw [hy126]; with_reducible exact H) | (have H2_ := (Option.bind_some _ _).symm.trans H; rw [hy126]; with_reducible exact H2_) | (have H2_ := (Option.bind_some _ _).symm.trans H; with_reducible exact H2_) | with_reducible exact H | (rw [hy126]; exact H) | exact H
              have Ny126 := Aside0.mk hy126
              clear hy126
              by_cases c11 : x3_1.size + (strOfNums y126).size ≤ 9223372036854775807
              · rw [if_pos c11] at H
                have c11b0 := eq_true c11
                have c11b1 : decide (x3_1.size + (strOfNums y126).size ≤ 9223372036854775807) = true := decide_eq_true c11
                try have c11b2 : (9223372036854775807 < x3_1.size + (strOfNums y126).size) = False := eq_false (Nat.not_lt.2 c11)
                have H' := Aside0.mk H
                clear H
                have p4 : 0 ≤ (x4_1 : Int) := of_decide_eq_true (by first | (with_reducible assumption) | assumption)
                have q4 : x4_1 < (a0.size : Int) := of_decide_eq_true (by first | (with_reducible assumption) | assumption)
                have hx4 := bt_at a0 x4_1
                replace p4 := eq_true p4
                replace q4 := eq_true q4
                go_wp2_with (first | ((with_reducible refine gate_dst (N := 25) rfl ?_); refine Kd.R_lit (Kd.int .u8) _ 5 ?hg (N := 25) ?hd (xs := ([bt a0 x4_1] : List Int)) (inner := [.int .u8 (bt a0 x4_1)]) (ok := fun _ => True) (okp := fun _ => True) ?hr ?hp (fun _ hk => hk) trivial (Below.refl _ _) (Nat.le_refl _) (by simp) ?_; (case hd => rfl); (case hg => rfl); (case hr => first | (go_simp; done) | (go_simp; rfl)); (case hp => exact (Reps.one (show Kd.M (Kd.int .u8) _ _ _ (bt a0 x4_1) [.int .u8 (bt a0 x4_1)] from rfl) (Reps.none _ _))); intro v127 w12 ho13 hb hg_ hnew_; clear hg_ hnew_; (first | rw [← Ny126.out] at ho13 | (simp only [Int.reduceToNat] at ho13; rw [← Ny126.out] at ho13)); have n0_ := Aside0.mk (Kd.R_lower ho13 (below_size (by repeat (first | (with_reducible first | exact HB.out | apply below_alloc | apply pw_below_drewN | apply below_drew1) | exact HB.out)))); have n1_ := Aside0.mk (below_step (by repeat (first | (with_reducible first | exact HB.out | apply below_alloc | apply pw_below_drewN | apply below_drew1) | exact HB.out)) hb); clear HB; have HO128 := n0_; have HB := n1_; clear n0_ n1_; clear hb ho13; have hcv14 := own_string (P := Try.prog) Try.underlying41 Try.underlying5 Try.underlying9 (Kd.own_of_R HO128.out)))
                go_roundg k1
                case measure => have := HK1.out; omega
                case rel => exact ⟨(x3_1 ++ (strOfNums y126)), (wrap64 (x4_1 + 1)), (by first | rfl | (simp; done) | (simp [*]; done)), (by first | rfl | (simp; done) | (simp [*]; done)), H', ⟨by have := HK1.out; omega⟩, ⟨by repeat (first | (with_reducible first | exact HB.out | apply below_alloc | apply pw_below_drewN | apply below_drew1) | exact HB.out)⟩⟩
              · rw [if_neg c11] at H
                exact absurd H (by simp)
          · rw [if_neg c5] at H
            have c5b0 : decide (65 ≤ (bt a0 x4_1)) = false := decide_eq_false c5
            clear c5
            obtain ⟨y129, hy129⟩ : ∃ y_ : List Int, y_ = (([bt a0 x4_1] : List Int)) := ⟨_, rfl⟩
            replace H : (if x3_1.size + (strOfNums y129).size ≤ 9223372036854775807 then (kakugyoref02_Small.l0 k1 a0 (x3_1 ++ (strOfNums y129)) (wrap64 (x4_1 + 1))) else (none)) = some r := by first | (rw [hy129]; with_reducible exact H) | (have H2_ := (Option.bind_some _ _).symm.trans H; rw [hy129]; with_reducible exact H2_) | (have H2_ := (Option.bind_some _ _).symm.trans H; with_reducible exact H2_) | with_reducible exact H | (rw [hy129]; exact H) | exact H
            have Ny129 := Aside0.mk hy129
            clear hy129
            by_cases c15 : x3_1.size + (strOfNums y129).size ≤ 9223372036854775807
            · rw [if_pos c15] at H
              have c15b0 := eq_true c15
              have c15b1 : decide (x3_1.size + (strOfNums y129).size ≤ 9223372036854775807) = true := decide_eq_true c15
              try have c15b2 : (9223372036854775807 < x3_1.size + (strOfNums y129).size) = False := eq_false (Nat.not_lt.2 c15)
              have H' := Aside0.mk H
              clear H
              have p4 : 0 ≤ (x4_1 : Int) := of_decide_eq_true (by first | (with_reducible assumption) | assumption)
              have q4 : x4_1 < (a0.size : Int) := of_decide_eq_true (by first | (with_reducible assumption) | assumption)
              have hx4 := bt_at a0 x4_1
              replace p4 := eq_true p4
              replace q4 := eq_true q4
              go_wp2_with (first | ((with_reducible refine gate_dst (N := 25) rfl ?_); refine Kd.R_lit (Kd.int .u8) _ 5 ?hg (N := 25) ?hd (xs := ([bt a0 x4_1] : List Int)) (inner := [.int .u8 (bt a0 x4_1)]) (ok := fun _ => True) (okp := fun _ => True) ?hr ?hp (fun _ hk => hk) trivial (Below.refl _ _) (Nat.le_refl _) (by simp) ?_; (case hd => rfl); (case hg => rfl); (case hr => first | (go_simp; done) | (go_simp; rfl)); (case hp => exact (Reps.one (show Kd.M (Kd.int .u8) _ _ _ (bt a0 x4_1) [.int .u8 (bt a0 x4_1)] from rfl) (Reps.none _ _))); intro v130 w16 ho17 hb hg_ hnew_; clear hg_ hnew_; (first | rw [← Ny129.out] at ho17 | (simp only [Int.reduceToNat] at ho17; rw [← Ny129.out] at ho17)); have n0_ := Aside0.mk (Kd.R_lower ho17 (below_size (by repeat (first | (with_reducible first | exact HB.out | apply below_alloc | apply pw_below_drewN | apply below_drew1) | exact HB.out)))); have n1_ := Aside0.mk (below_step (by repeat (first | (with_reducible first | exact HB.out | apply below_alloc | apply pw_below_drewN | apply below_drew1) | exact HB.out)) hb); clear HB; have HO131 := n0_; have HB := n1_; clear n0_ n1_; clear hb ho17; have hcv18 := own_string (P := Try.prog) Try.underlying41 Try.underlying5 Try.underlying9 (Kd.own_of_R HO131.out)))
              go_roundg k1
              case measure => have := HK1.out; omega
              case rel => exact ⟨(x3_1 ++ (strOfNums y129)), (wrap64 (x4_1 + 1)), (by first | rfl | (simp; done) | (simp [*]; done)), (by first | rfl | (simp; done) | (simp [*]; done)), H', ⟨by have := HK1.out; omega⟩, ⟨by repeat (first | (with_reducible first | exact HB.out | apply below_alloc | apply pw_below_drewN | apply below_drew1) | exact HB.out)⟩⟩
            · rw [if_neg c15] at H
              exact absurd H (by simp)
        · rw [if_neg c3] at H
          exact absurd H (by simp)
      · rw [if_neg c2] at H
        have c2b0 : decide (x4_1 < (a0.size : Int)) = false := decide_eq_false c2
        clear c2
        obtain rfl := Option.some.inj H
        go_wp2
        go_ret
        exact ⟨by first | rfl | (simp [errW_none, errW_some] <;> rfl) | (simp [*, errW_none, errW_some] <;> rfl) | (simp [*, errW_none, errW_some]; generalize ByteArray.toList _ = q_; cases q_ <;> rfl), by repeat (first | (with_reducible first | exact HB.out | apply below_alloc | apply pw_below_drewN | apply below_drew1) | exact HB.out)⟩

/-! ### kakugyoref02_Letters: function 29 -/
def kakugyoref02_Letters.f  : Option (List ByteArray) := some (([(⟨#[]⟩ : ByteArray), (⟨#[80]⟩ : ByteArray), (⟨#[76]⟩ : ByteArray), (⟨#[78]⟩ : ByteArray), (⟨#[83]⟩ : ByteArray), (⟨#[71]⟩ : ByteArray), (⟨#[66]⟩ : ByteArray), (⟨#[82]⟩ : ByteArray), (⟨#[75]⟩ : ByteArray), (⟨#[43, 80]⟩ : ByteArray), (⟨#[43, 76]⟩ : ByteArray), (⟨#[43, 78]⟩ : ByteArray), (⟨#[43, 83]⟩ : ByteArray), (⟨#[]⟩ : ByteArray), (⟨#[43, 66]⟩ : ByteArray), (⟨#[43, 82]⟩ : ByteArray)] : List ByteArray))
set_option maxHeartbeats 8000000 in
set_option maxRecDepth 100000 in
theorem kakugyoref02_Letters.calls  (r : List ByteArray) (w : World) (h : kakugyoref02_Letters.f  = some r) :
    Calls Try.prog 29 #[] w fun e w' => ∃ v0_ : Value, e = .returned (v0_) ∧ Kd.R Kd.string 9 w' w.heap.size (fun _ => True) v0_ r ∧ Below w.heap.size w w' := by
  have HB := Aside0.mk (Below.refl w.heap.size w)
  have H : (some (([(⟨#[]⟩ : ByteArray), (⟨#[80]⟩ : ByteArray), (⟨#[76]⟩ : ByteArray), (⟨#[78]⟩ : ByteArray), (⟨#[83]⟩ : ByteArray), (⟨#[71]⟩ : ByteArray), (⟨#[66]⟩ : ByteArray), (⟨#[82]⟩ : ByteArray), (⟨#[75]⟩ : ByteArray), (⟨#[43, 80]⟩ : ByteArray), (⟨#[43, 76]⟩ : ByteArray), (⟨#[43, 78]⟩ : ByteArray), (⟨#[43, 83]⟩ : ByteArray), (⟨#[]⟩ : ByteArray), (⟨#[43, 66]⟩ : ByteArray), (⟨#[43, 82]⟩ : ByteArray)] : List ByteArray))) = some r := h
  clear h
  obtain ⟨y132, hy132⟩ : ∃ y_ : List ByteArray, y_ = (([(⟨#[]⟩ : ByteArray), (⟨#[80]⟩ : ByteArray), (⟨#[76]⟩ : ByteArray), (⟨#[78]⟩ : ByteArray), (⟨#[83]⟩ : ByteArray), (⟨#[71]⟩ : ByteArray), (⟨#[66]⟩ : ByteArray), (⟨#[82]⟩ : ByteArray), (⟨#[75]⟩ : ByteArray), (⟨#[43, 80]⟩ : ByteArray), (⟨#[43, 76]⟩ : ByteArray), (⟨#[43, 78]⟩ : ByteArray), (⟨#[43, 83]⟩ : ByteArray), (⟨#[]⟩ : ByteArray), (⟨#[43, 66]⟩ : ByteArray), (⟨#[43, 82]⟩ : ByteArray)] : List ByteArray)) := ⟨_, rfl⟩
  replace H : (some y132) = some r := by first | (rw [hy132]; with_reducible exact H) | (have H2_ := (Option.bind_some _ _).symm.trans H; rw [hy132]; with_reducible exact H2_) | (have H2_ := (Option.bind_some _ _).symm.trans H; with_reducible exact H2_) | with_reducible exact H | (rw [hy132]; exact H) | exact H
  have Ny132 := Aside0.mk hy132
  clear hy132
  obtain rfl := Option.some.inj H
  go_enter Try.func29, Try.ntmps29
  go_wp2_with (first | ((with_reducible refine gate_dst (N := 1) rfl ?_); refine Kd.R_lit Kd.string _ 9 ?hg (N := 1) ?hd (xs := ([(⟨#[]⟩ : ByteArray), (⟨#[80]⟩ : ByteArray), (⟨#[76]⟩ : ByteArray), (⟨#[78]⟩ : ByteArray), (⟨#[83]⟩ : ByteArray), (⟨#[71]⟩ : ByteArray), (⟨#[66]⟩ : ByteArray), (⟨#[82]⟩ : ByteArray), (⟨#[75]⟩ : ByteArray), (⟨#[43, 80]⟩ : ByteArray), (⟨#[43, 76]⟩ : ByteArray), (⟨#[43, 78]⟩ : ByteArray), (⟨#[43, 83]⟩ : ByteArray), (⟨#[]⟩ : ByteArray), (⟨#[43, 66]⟩ : ByteArray), (⟨#[43, 82]⟩ : ByteArray)] : List ByteArray)) (inner := [.string (⟨#[]⟩ : ByteArray), .string (⟨#[80]⟩ : ByteArray), .string (⟨#[76]⟩ : ByteArray), .string (⟨#[78]⟩ : ByteArray), .string (⟨#[83]⟩ : ByteArray), .string (⟨#[71]⟩ : ByteArray), .string (⟨#[66]⟩ : ByteArray), .string (⟨#[82]⟩ : ByteArray), .string (⟨#[75]⟩ : ByteArray), .string (⟨#[43, 80]⟩ : ByteArray), .string (⟨#[43, 76]⟩ : ByteArray), .string (⟨#[43, 78]⟩ : ByteArray), .string (⟨#[43, 83]⟩ : ByteArray), .string (⟨#[]⟩ : ByteArray), .string (⟨#[43, 66]⟩ : ByteArray), .string (⟨#[43, 82]⟩ : ByteArray)]) (ok := fun _ => True) (okp := fun _ => True) ?hr ?hp (fun _ hk => hk) trivial (Below.refl _ _) (Nat.le_refl _) (by simp) ?_; (case hd => rfl); (case hg => rfl); (case hr => first | (go_simp; done) | (go_simp; rfl)); (case hp => exact (Reps.one (show Kd.M Kd.string _ _ _ (⟨#[]⟩ : ByteArray) [.string (⟨#[]⟩ : ByteArray)] from rfl) (Reps.one (show Kd.M Kd.string _ _ _ (⟨#[80]⟩ : ByteArray) [.string (⟨#[80]⟩ : ByteArray)] from rfl) (Reps.one (show Kd.M Kd.string _ _ _ (⟨#[76]⟩ : ByteArray) [.string (⟨#[76]⟩ : ByteArray)] from rfl) (Reps.one (show Kd.M Kd.string _ _ _ (⟨#[78]⟩ : ByteArray) [.string (⟨#[78]⟩ : ByteArray)] from rfl) (Reps.one (show Kd.M Kd.string _ _ _ (⟨#[83]⟩ : ByteArray) [.string (⟨#[83]⟩ : ByteArray)] from rfl) (Reps.one (show Kd.M Kd.string _ _ _ (⟨#[71]⟩ : ByteArray) [.string (⟨#[71]⟩ : ByteArray)] from rfl) (Reps.one (show Kd.M Kd.string _ _ _ (⟨#[66]⟩ : ByteArray) [.string (⟨#[66]⟩ : ByteArray)] from rfl) (Reps.one (show Kd.M Kd.string _ _ _ (⟨#[82]⟩ : ByteArray) [.string (⟨#[82]⟩ : ByteArray)] from rfl) (Reps.one (show Kd.M Kd.string _ _ _ (⟨#[75]⟩ : ByteArray) [.string (⟨#[75]⟩ : ByteArray)] from rfl) (Reps.one (show Kd.M Kd.string _ _ _ (⟨#[43, 80]⟩ : ByteArray) [.string (⟨#[43, 80]⟩ : ByteArray)] from rfl) (Reps.one (show Kd.M Kd.string _ _ _ (⟨#[43, 76]⟩ : ByteArray) [.string (⟨#[43, 76]⟩ : ByteArray)] from rfl) (Reps.one (show Kd.M Kd.string _ _ _ (⟨#[43, 78]⟩ : ByteArray) [.string (⟨#[43, 78]⟩ : ByteArray)] from rfl) (Reps.one (show Kd.M Kd.string _ _ _ (⟨#[43, 83]⟩ : ByteArray) [.string (⟨#[43, 83]⟩ : ByteArray)] from rfl) (Reps.one (show Kd.M Kd.string _ _ _ (⟨#[]⟩ : ByteArray) [.string (⟨#[]⟩ : ByteArray)] from rfl) (Reps.one (show Kd.M Kd.string _ _ _ (⟨#[43, 66]⟩ : ByteArray) [.string (⟨#[43, 66]⟩ : ByteArray)] from rfl) (Reps.one (show Kd.M Kd.string _ _ _ (⟨#[43, 82]⟩ : ByteArray) [.string (⟨#[43, 82]⟩ : ByteArray)] from rfl) (Reps.none _ _)))))))))))))))))); intro v133 w1 ho2 hb hg_ hnew_; clear hg_ hnew_; (first | rw [← Ny132.out] at ho2 | (simp only [Int.reduceToNat] at ho2; rw [← Ny132.out] at ho2)); have n0_ := Aside0.mk (Kd.R_lower ho2 (below_size (by repeat (first | (with_reducible first | exact HB.out | apply below_alloc | apply pw_below_drewN | apply below_drew1) | exact HB.out)))); have n1_ := Aside0.mk (below_step (by repeat (first | (with_reducible first | exact HB.out | apply below_alloc | apply pw_below_drewN | apply below_drew1) | exact HB.out)) hb); clear HB; have HO134 := n0_; have HB := n1_; clear n0_ n1_; clear hb ho2))
  go_ret
  exact ⟨_, by first | rfl | (simp [errW_none, errW_some] <;> rfl) | (simp [*, errW_none, errW_some] <;> rfl), by (with_reducible repeat (first | apply Kd.R_alloc | apply Kd.R_drewN | apply Kd.R_drew)); exact HO134.out, by repeat (first | (with_reducible first | exact HB.out | apply below_alloc | apply pw_below_drewN | apply below_drew1) | exact HB.out)⟩

/-! ### kakugyoref02_Name: function 16 -/
def kakugyoref02_Name.j0 : Nat → Int → List ByteArray → Bool → Option (ByteArray)
  | 0, _, _, _ => none
  | k + 1, x0, x3, x10 => if x10 = true then (if 0 ≤ x0 then (if x0 < (x3.length : Int) then (some (rdOf ByteArray.empty x3 x0)) else (none)) else (none)) else (if x0 ≥ 17 then (if x0 ≤ 31 then (if 0 ≤ (wrap64 (x0 - 16)) then (if (wrap64 (x0 - 16)) < (x3.length : Int) then ((kakugyoref02_Small.f k (rdOf ByteArray.empty x3 (wrap64 (x0 - 16)))).bind fun t140 => (some t140)) else (none)) else (none)) else (some (⟨#[]⟩ : ByteArray))) else (some (⟨#[]⟩ : ByteArray)))
def kakugyoref02_Name.f (k : Nat) (a0 : Int) : Option (ByteArray) := (kakugyoref02_Letters.f).bind fun t135 => (if a0 ≥ 1 then (kakugyoref02_Name.j0 k a0 t135 (decide (a0 ≤ 15))) else (kakugyoref02_Name.j0 k a0 t135 false))
theorem kakugyoref02_Name.mono_l : ∀ k, (∀ y0 y1 y2, LeO (kakugyoref02_Name.j0 k y0 y1 y2) (kakugyoref02_Name.j0 (k + 1) y0 y1 y2))
  | 0 => fun _ _ _ r h => by simp [kakugyoref02_Name.j0] at h
  | k + 1 => by
    have ih0 := kakugyoref02_Name.mono_l k
    · intro y0 y1 y2
      unfold kakugyoref02_Name.j0
      repeat' first
      | (with_reducible exact ih0 _ _ _)
      | (with_reducible exact kakugyoref02_Small.mono _ _)
      | (with_reducible exact LeO.refl _)
      | (with_reducible exact LeO.none _)
      | (with_reducible refine LeO.ite ?_ ?_)
      | (with_reducible refine LeO.bind ?_ (fun _ => ?_))
      | exact ih0 _ _ _
      | exact kakugyoref02_Small.mono _ _
      | exact LeO.none _
      | refine LeO.ite ?_ ?_
      | refine LeO.bind ?_ (fun _ => ?_)
theorem kakugyoref02_Name.mono : ∀ a0 k, LeO (kakugyoref02_Name.f k a0) (kakugyoref02_Name.f (k + 1) a0) := by
  intro a0 k
  have ih0 := kakugyoref02_Name.mono_l k
  unfold kakugyoref02_Name.f
  repeat' first
      | (with_reducible exact ih0 _ _ _)
      | (with_reducible exact kakugyoref02_Small.mono _ _)
      | (with_reducible exact LeO.refl _)
      | (with_reducible exact LeO.none _)
      | (with_reducible refine LeO.ite ?_ ?_)
      | (with_reducible refine LeO.bind ?_ (fun _ => ?_))
      | exact ih0 _ _ _
      | exact kakugyoref02_Small.mono _ _
      | exact LeO.none _
      | refine LeO.ite ?_ ?_
      | refine LeO.bind ?_ (fun _ => ?_)
set_option maxHeartbeats 8000000 in
set_option maxRecDepth 100000 in
theorem kakugyoref02_Name.calls (k : Nat) (a0 : Int) (r : ByteArray) (w : World) (h : kakugyoref02_Name.f k a0 = some r) :
    Calls Try.prog 16 #[.int .i64 a0] w fun e w' => e = .returned (.string r) ∧ Below w.heap.size w w' := by
  have HB := Aside0.mk (Below.refl w.heap.size w)
  have H : ((kakugyoref02_Letters.f).bind fun t135 => (if a0 ≥ 1 then (kakugyoref02_Name.j0 k a0 t135 (decide (a0 ≤ 15))) else (kakugyoref02_Name.j0 k a0 t135 false))) = some r := h
  clear h
  replace H := Option.bind_eq_some_iff.mp H
  obtain ⟨t135, A20, H⟩ := H
  replace H : (if a0 ≥ 1 then (kakugyoref02_Name.j0 k a0 t135 (decide (a0 ≤ 15))) else (kakugyoref02_Name.j0 k a0 t135 false)) = some r := H
  have A2 := Aside0.mk A20
  clear A20
  have HC3 := Aside0.mk H
  clear H
  go_enter Try.func16, Try.ntmps16
  go_upto_region 2 with (first | ((with_reducible refine gate_callee (f := 29) rfl ?_); refine goesL_ (some 4) rfl rfl Try.func29 (by kernel_rfl) rfl #[] rfl (by (try simp only [List.map_toArray, List.map_cons, List.map_nil]); first | done | rfl | (simp only [List.length_drop, List.length_take]; rfl)) ?_; (with_reducible refine (kakugyoref02_Letters.calls  t135 _ A2.out).mono ?_); rintro e w4 ⟨v136, rfl, ho0, hb⟩; refine ⟨_, rfl, ?_⟩; have n0_ := Aside0.mk (Kd.R_lower ho0 (below_size (by repeat (first | (with_reducible first | exact HB.out | apply below_alloc | apply pw_below_drewN | apply below_drew1) | exact HB.out)))); have n1_ := Aside0.mk (below_step (by repeat (first | (with_reducible first | exact HB.out | apply below_alloc | apply pw_below_drewN | apply below_drew1) | exact HB.out)) hb); clear HB; have HO137 := n0_; have HB := n1_; clear n0_ n1_; (try clear hb); (try clear hb2); (try clear hk); (try clear hi); (try clear ho0)))
  (try simp only [Act.put, List.setIfInBounds_toArray, List.set_cons_zero, List.set_cons_succ])
  go_cut [10] (fun v10 wc => ∃ (kq : Nat) (x10_2 : Bool), v10 = .bool x10_2 ∧ Aside0 (kakugyoref02_Name.j0 kq a0 t135 x10_2 = some r) ∧ Aside0 (kq ≤ k) ∧ Aside0 (Kd.R Kd.string 9 wc w.heap.size (fun _ => True) v136 t135) ∧ Aside0 (Below w.heap.size w wc))
  case first =>
    have H := HC3.out
    clear HC3
    by_cases c5 : a0 ≥ 1
    · rw [if_pos c5] at H
      have c5b0 : decide (1 ≤ a0) = true := decide_eq_true c5
      clear c5
      (first | rw [c5b0] | (simp only [i64_w, i32_w]; rw [c5b0]) | skip)
      have H' := Aside0.mk H
      clear H
      go_wp2
      go_meet
      case rel => exact ⟨_, (decide (a0 ≤ 15)), (by first | rfl | (simp; done) | (simp [*]; done)), H', ⟨by first | omega | exact Nat.le_refl _⟩, ⟨by (with_reducible repeat (first | apply Kd.R_alloc | apply Kd.R_drewN | apply Kd.R_drew)); exact HO137.out⟩, ⟨by repeat (first | (with_reducible first | exact HB.out | apply below_alloc | apply pw_below_drewN | apply below_drew1) | exact HB.out)⟩⟩
    · rw [if_neg c5] at H
      have c5b0 : decide (1 ≤ a0) = false := decide_eq_false c5
      clear c5
      (first | rw [c5b0] | (simp only [i64_w, i32_w]; rw [c5b0]) | skip)
      have H' := Aside0.mk H
      clear H
      go_wp2
      go_meet
      case rel => exact ⟨_, (false), (by first | rfl | (simp; done) | (simp [*]; done)), H', ⟨by first | omega | exact Nat.le_refl _⟩, ⟨by (with_reducible repeat (first | apply Kd.R_alloc | apply Kd.R_drewN | apply Kd.R_drew)); exact HO137.out⟩, ⟨by repeat (first | (with_reducible first | exact HB.out | apply below_alloc | apply pw_below_drewN | apply below_drew1) | exact HB.out)⟩⟩
  case rest =>
    clear HC3
    try clear c1
    try clear c2
    try clear p2
    try clear c5
    try clear c5b0
    obtain ⟨kq, x10_2, rfl, HA, HJ2, HO_3, HB⟩ := hcut
    cases kq with
    | zero => exact absurd HA.out (by simp [kakugyoref02_Name.j0])
    | succ kj2 =>
      have H := HA.out
      clear HA
      simp only [kakugyoref02_Name.j0] at H
      by_cases c6 : x10_2 = true
      · subst c6
        have H1 : (if 0 ≤ a0 then (if a0 < (t135.length : Int) then (some (rdOf ByteArray.empty t135 a0)) else (none)) else (none)) = some r := by rw [if_pos rfl] at H; exact H
        clear H
        have H := H1
        clear H1
        by_cases c7 : 0 ≤ a0
        · rw [if_pos c7] at H
          have c7b0 : decide (0 ≤ a0) = true := decide_eq_true c7
          clear c7
          by_cases c8 : a0 < (t135.length : Int)
          · rw [if_pos c8] at H
            have c8b0 : decide (a0 < (t135.length : Int)) = true := decide_eq_true c8
            clear c8
            obtain rfl := Option.some.inj H
            obtain ⟨Ao9, co9, eo9⟩ := Kd.R_slice HO_3.out
            subst eo9
            have p138 : 0 ≤ (a0 : Int) := of_decide_eq_true (by first | (with_reducible assumption) | assumption)
            have q138 : a0 < (t135.length : Int) := of_decide_eq_true (by first | (with_reducible assumption) | assumption)
            obtain ⟨ad138, e138, hx138_0⟩ := Kd.at_string (Kd.R_reads' HO_3.out).2.2 a0 p138 q138
            cases e138
            replace p138 := eq_true p138
            replace q138 := eq_true q138
            go_wp2
            go_ret
            exact ⟨by first | rfl | (simp [errW_none, errW_some] <;> rfl) | (simp [*, errW_none, errW_some] <;> rfl) | (simp [*, errW_none, errW_some]; generalize ByteArray.toList _ = q_; cases q_ <;> rfl), by repeat (first | (with_reducible first | exact HB.out | apply below_alloc | apply pw_below_drewN | apply below_drew1) | exact HB.out)⟩
          · rw [if_neg c8] at H
            exact absurd H (by simp)
        · rw [if_neg c7] at H
          exact absurd H (by simp)
      · replace c6 := Bool.eq_false_iff.mpr c6
        subst c6
        have H1 : (if a0 ≥ 17 then (if a0 ≤ 31 then (if 0 ≤ (wrap64 (a0 - 16)) then (if (wrap64 (a0 - 16)) < (t135.length : Int) then ((kakugyoref02_Small.f kj2 (rdOf ByteArray.empty t135 (wrap64 (a0 - 16)))).bind fun t140 => (some t140)) else (none)) else (none)) else (some (⟨#[]⟩ : ByteArray))) else (some (⟨#[]⟩ : ByteArray))) = some r := by rw [if_neg (show ¬ (false = true) by decide)] at H; exact H
        clear H
        have H := H1
        clear H1
        by_cases c10 : a0 ≥ 17
        · rw [if_pos c10] at H
          have c10b0 : decide (17 ≤ a0) = true := decide_eq_true c10
          clear c10
          by_cases c11 : a0 ≤ 31
          · rw [if_pos c11] at H
            have c11b0 : decide (a0 ≤ 31) = true := decide_eq_true c11
            clear c11
            obtain ⟨ji12, hji12⟩ : ∃ j_ : Int, (wrap64 (a0 - 16)) = j_ := ⟨_, rfl⟩
            replace H : (if 0 ≤ (ji12) then (if (ji12) < (t135.length : Int) then ((kakugyoref02_Small.f kj2 (rdOf ByteArray.empty t135 (ji12))).bind fun t140 => (some t140)) else (none)) else (none)) = some r := by first | (rw [hji12] at H; exact H) | (simp only [hji12] at H ⊢; exact H)
            have hji12w : (IntKind.i64.wrap (a0 - 16)) = ji12 := (i64_w _).trans hji12
            by_cases c13 : 0 ≤ (ji12)
            · rw [if_pos c13] at H
              have c13b0 : decide (0 ≤ (ji12)) = true := decide_eq_true c13
              clear c13
              by_cases c14 : (ji12) < (t135.length : Int)
              · rw [if_pos c14] at H
                have c14b0 : decide ((ji12) < (t135.length : Int)) = true := decide_eq_true c14
                clear c14
                replace H := Option.bind_eq_some_iff.mp H
                obtain ⟨t140, A150, H⟩ := H
                replace H : (some t140) = some r := H
                have A15 := Aside0.mk A150
                clear A150
                obtain rfl := Option.some.inj H
                obtain ⟨Ao16, co16, eo16⟩ := Kd.R_slice HO_3.out
                subst eo16
                have p139 : 0 ≤ ((ji12) : Int) := of_decide_eq_true (by first | (with_reducible assumption) | assumption)
                have q139 : (ji12) < (t135.length : Int) := of_decide_eq_true (by first | (with_reducible assumption) | assumption)
                obtain ⟨ad139, e139, hx139_0⟩ := Kd.at_string (Kd.R_reads' HO_3.out).2.2 (ji12) p139 q139
                cases e139
                replace p139 := eq_true p139
                replace q139 := eq_true q139
                go_wp2_with (first | ((with_reducible refine gate_callee (f := 28) rfl ?_); refine goesL_ (some 26) rfl rfl Try.func28 (by kernel_rfl) rfl #[.string (rdOf ByteArray.empty t135 (ji12))] rfl (by (try simp only [List.map_toArray, List.map_cons, List.map_nil]); first | done | (simp only [hji12]; rfl) | rfl | (simp only [List.length_drop, List.length_take]; rfl)) ?_; (with_reducible refine (kakugyoref02_Small.calls kj2 (rdOf ByteArray.empty t135 (ji12)) t140 _ A15.out).mono ?_); rintro e w17 ⟨rfl, hb⟩; refine ⟨_, rfl, ?_⟩; have n0_ := Aside0.mk (Kd.R_below (by (with_reducible repeat (first | apply Kd.R_alloc | apply Kd.R_drewN | apply Kd.R_drew)); exact HO_3.out) hb); have n1_ := Aside0.mk (below_step (by repeat (first | (with_reducible first | exact HB.out | apply below_alloc | apply pw_below_drewN | apply below_drew1) | exact HB.out)) hb); clear HO_3; clear HB; have HO_3 := n0_; have HB := n1_; clear n0_ n1_; (try clear hb); (try clear hb2); (try clear hk); (try clear hi)))
                go_ret
                exact ⟨by first | rfl | (simp [errW_none, errW_some] <;> rfl) | (simp only [← hji12]; first | rfl | (simp [errW_none, errW_some] <;> rfl)) | (simp [*, errW_none, errW_some] <;> rfl) | (simp [*, errW_none, errW_some]; generalize ByteArray.toList _ = q_; cases q_ <;> rfl), by repeat (first | (with_reducible first | exact HB.out | apply below_alloc | apply pw_below_drewN | apply below_drew1) | exact HB.out)⟩
              · rw [if_neg c14] at H
                exact absurd H (by simp)
            · rw [if_neg c13] at H
              exact absurd H (by simp)
          · rw [if_neg c11] at H
            have c11b0 : decide (a0 ≤ 31) = false := decide_eq_false c11
            clear c11
            obtain rfl := Option.some.inj H
            go_wp2
            go_ret
            exact ⟨by first | rfl | (simp [errW_none, errW_some] <;> rfl) | (simp [*, errW_none, errW_some] <;> rfl) | (simp [*, errW_none, errW_some]; generalize ByteArray.toList _ = q_; cases q_ <;> rfl), by repeat (first | (with_reducible first | exact HB.out | apply below_alloc | apply pw_below_drewN | apply below_drew1) | exact HB.out)⟩
        · rw [if_neg c10] at H
          have c10b0 : decide (17 ≤ a0) = false := decide_eq_false c10
          clear c10
          obtain rfl := Option.some.inj H
          go_wp2
          go_ret
          exact ⟨by first | rfl | (simp [errW_none, errW_some] <;> rfl) | (simp [*, errW_none, errW_some] <;> rfl) | (simp [*, errW_none, errW_some]; generalize ByteArray.toList _ = q_; cases q_ <;> rfl), by repeat (first | (with_reducible first | exact HB.out | apply below_alloc | apply pw_below_drewN | apply below_drew1) | exact HB.out)⟩

/-! ### kakugyoref02_Raw: function 19 -/
def kakugyoref02_Raw.j0 : Nat → Int → Bool → Option (Int)
  | 0, _, _ => none
  | k + 1, x0, x12 => if x12 = true then (some 0) else (if x0 > 8 then (some (wrap64 (x0 - 8))) else (some x0))
def kakugyoref02_Raw.f (k : Nat) (a0 : Int) : Option (Int) := if a0 < 1 then (kakugyoref02_Raw.j0 k a0 true) else (if a0 > 15 then (kakugyoref02_Raw.j0 k a0 true) else (kakugyoref02_Raw.j0 k a0 (a0 == 13)))
theorem kakugyoref02_Raw.mono_l : ∀ k, (∀ y0 y1, LeO (kakugyoref02_Raw.j0 k y0 y1) (kakugyoref02_Raw.j0 (k + 1) y0 y1))
  | 0 => fun _ _ r h => by simp [kakugyoref02_Raw.j0] at h
  | k + 1 => by
    have ih0 := kakugyoref02_Raw.mono_l k
    · intro y0 y1
      unfold kakugyoref02_Raw.j0
      repeat' first
      | (with_reducible exact ih0 _ _)
      | (with_reducible exact LeO.refl _)
      | (with_reducible exact LeO.none _)
      | (with_reducible refine LeO.ite ?_ ?_)
      | (with_reducible refine LeO.bind ?_ (fun _ => ?_))
      | exact ih0 _ _
      | exact LeO.none _
      | refine LeO.ite ?_ ?_
      | refine LeO.bind ?_ (fun _ => ?_)
theorem kakugyoref02_Raw.mono : ∀ a0 k, LeO (kakugyoref02_Raw.f k a0) (kakugyoref02_Raw.f (k + 1) a0) := by
  intro a0 k
  have ih0 := kakugyoref02_Raw.mono_l k
  unfold kakugyoref02_Raw.f
  repeat' first
      | (with_reducible exact ih0 _ _)
      | (with_reducible exact LeO.refl _)
      | (with_reducible exact LeO.none _)
      | (with_reducible refine LeO.ite ?_ ?_)
      | (with_reducible refine LeO.bind ?_ (fun _ => ?_))
      | exact ih0 _ _
      | exact LeO.none _
      | refine LeO.ite ?_ ?_
      | refine LeO.bind ?_ (fun _ => ?_)
set_option maxHeartbeats 8000000 in
set_option maxRecDepth 100000 in
theorem kakugyoref02_Raw.calls (k : Nat) (a0 : Int) (r : Int) (w : World) (h : kakugyoref02_Raw.f k a0 = some r) :
    Calls Try.prog 19 #[.int .i64 a0] w fun e w' => e = .returned (.int .i64 r) ∧ Drawn0 w w' := by
  have H : (if a0 < 1 then (kakugyoref02_Raw.j0 k a0 true) else (if a0 > 15 then (kakugyoref02_Raw.j0 k a0 true) else (kakugyoref02_Raw.j0 k a0 (a0 == 13)))) = some r := h
  clear h
  have HC2 := Aside0.mk H
  clear H
  go_enter Try.func19, Try.ntmps19
  go_upto_region 1 with (fail)
  go_cut [12] (fun v12 wc => ∃ (kq : Nat) (x12_1 : Bool), v12 = .bool x12_1 ∧ Aside0 (kakugyoref02_Raw.j0 kq a0 x12_1 = some r) ∧ Aside0 (kq ≤ k) ∧ Drawn0 w wc)
  case first =>
    have H := HC2.out
    clear HC2
    by_cases c3 : a0 < 1
    · rw [if_pos c3] at H
      have c3b0 : decide (a0 < 1) = true := decide_eq_true c3
      clear c3
      (first | rw [c3b0] | (simp only [i64_w, i32_w]; rw [c3b0]) | skip)
      have H' := Aside0.mk H
      clear H
      go_wp2
      go_meet
      case rel => exact ⟨_, (true), (by first | rfl | (simp; done) | (simp [*]; done)), H', ⟨by first | omega | exact Nat.le_refl _⟩, by repeat (first | exact Drawn0.refl _ | apply Drawn0.step)⟩
    · rw [if_neg c3] at H
      have c3b0 : decide (a0 < 1) = false := decide_eq_false c3
      clear c3
      (first | rw [c3b0] | (simp only [i64_w, i32_w]; rw [c3b0]) | skip)
      by_cases c4 : a0 > 15
      · rw [if_pos c4] at H
        have c4b0 : decide (15 < a0) = true := decide_eq_true c4
        clear c4
        have H' := Aside0.mk H
        clear H
        go_wp2
        go_meet
        case rel => exact ⟨_, (true), (by first | rfl | (simp; done) | (simp [*]; done)), H', ⟨by first | omega | exact Nat.le_refl _⟩, by repeat (first | exact Drawn0.refl _ | apply Drawn0.step)⟩
      · rw [if_neg c4] at H
        have c4b0 : decide (15 < a0) = false := decide_eq_false c4
        clear c4
        have H' := Aside0.mk H
        clear H
        go_wp2
        go_meet
        case rel => exact ⟨_, ((a0 == 13)), (by first | rfl | (simp; done) | (simp [*]; done)), H', ⟨by first | omega | exact Nat.le_refl _⟩, by repeat (first | exact Drawn0.refl _ | apply Drawn0.step)⟩
  case rest =>
    clear HC2
    try clear c1
    try clear p2
    try clear c3
    try clear c3b0
    try clear c4
    try clear c4b0
    obtain ⟨kq, x12_1, rfl, HA, HJ1, ⟨mc1, rfl⟩⟩ := hcut
    cases kq with
    | zero => exact absurd HA.out (by simp [kakugyoref02_Raw.j0])
    | succ kj1 =>
      have H := HA.out
      clear HA
      simp only [kakugyoref02_Raw.j0] at H
      by_cases c5 : x12_1 = true
      · subst c5
        have H1 : (some 0) = some r := by rw [if_pos rfl] at H; exact H
        clear H
        have H := H1
        clear H1
        obtain rfl := Option.some.inj H
        go_wp2
        go_ret
        exact ⟨by first | rfl | (simp; done) | (simp [*]; done), by repeat (first | exact Drawn0.refl _ | apply Drawn0.step)⟩
      · replace c5 := Bool.eq_false_iff.mpr c5
        subst c5
        have H1 : (if a0 > 8 then (some (wrap64 (a0 - 8))) else (some a0)) = some r := by rw [if_neg (show ¬ (false = true) by decide)] at H; exact H
        clear H
        have H := H1
        clear H1
        by_cases c6 : a0 > 8
        · rw [if_pos c6] at H
          have c6b0 : decide (8 < a0) = true := decide_eq_true c6
          clear c6
          obtain rfl := Option.some.inj H
          go_wp2
          go_ret
          exact ⟨by first | rfl | (simp; done) | (simp [*]; done), by repeat (first | exact Drawn0.refl _ | apply Drawn0.step)⟩
        · rw [if_neg c6] at H
          have c6b0 : decide (8 < a0) = false := decide_eq_false c6
          clear c6
          obtain rfl := Option.some.inj H
          go_wp2
          go_ret
          exact ⟨by first | rfl | (simp; done) | (simp [*]; done), by repeat (first | exact Drawn0.refl _ | apply Drawn0.step)⟩

/-! ### kakugyolaw02_PieceKinds: function 3 -/
def kakugyolaw02_PieceKinds.j0 : Nat → Int → Int → Int → Bool → Option (Bool)
  | 0, _, _, _, _ => none
  | k + 1, x0, x4, x5, x30 => if x30 = true then (some false) else (if x4 = 0 then (some true) else ((piece_Of.f x5 x4).bind fun t148 => (if t148 = x0 then ((piece_Raw.f x4).bind fun t149 => ((kakugyoref02_Raw.f k x4).bind fun t150 => (some (t149 == t150)))) else (some false))))
def kakugyolaw02_PieceKinds.f (k : Nat) (a0 : Int) : Option (Bool) := (kakugyolaw02_names.f k).bind fun t141 => (if t141 = true then ((piece_Kind.f k a0).bind fun t142 => ((piece_Side.f k a0).bind fun t143 => ((kakugyoref02_Kind.f (wrap64 (a0))).bind fun t144 => (if t142 = t144 then ((kakugyoref02_Side.f (wrap64 (a0))).bind fun t145 => (if t143 = t145 then ((piece_Name.f k a0).bind fun t146 => ((kakugyoref02_Name.f k (wrap64 (a0))).bind fun t147 => (kakugyolaw02_PieceKinds.j0 k a0 t142 t143 (t146.toList != t147.toList)))) else (kakugyolaw02_PieceKinds.j0 k a0 t142 t143 true))) else (kakugyolaw02_PieceKinds.j0 k a0 t142 t143 true))))) else (some false))
theorem kakugyolaw02_PieceKinds.mono_l : ∀ k, (∀ y0 y1 y2 y3, LeO (kakugyolaw02_PieceKinds.j0 k y0 y1 y2 y3) (kakugyolaw02_PieceKinds.j0 (k + 1) y0 y1 y2 y3))
  | 0 => fun _ _ _ _ r h => by simp [kakugyolaw02_PieceKinds.j0] at h
  | k + 1 => by
    have ih0 := kakugyolaw02_PieceKinds.mono_l k
    · intro y0 y1 y2 y3
      unfold kakugyolaw02_PieceKinds.j0
      repeat' first
      | (with_reducible exact ih0 _ _ _ _)
      | (with_reducible exact kakugyolaw02_names.mono _)
      | (with_reducible exact kakugyoref02_Name.mono _ _)
      | (with_reducible exact kakugyoref02_Raw.mono _ _)
      | (with_reducible exact piece_Kind.mono _ _)
      | (with_reducible exact piece_Name.mono _ _)
      | (with_reducible exact piece_Side.mono _ _)
      | (with_reducible exact LeO.refl _)
      | (with_reducible exact LeO.none _)
      | (with_reducible refine LeO.ite ?_ ?_)
      | (with_reducible refine LeO.bind ?_ (fun _ => ?_))
      | exact ih0 _ _ _ _
      | exact kakugyolaw02_names.mono _
      | exact kakugyoref02_Name.mono _ _
      | exact kakugyoref02_Raw.mono _ _
      | exact piece_Kind.mono _ _
      | exact piece_Name.mono _ _
      | exact piece_Side.mono _ _
      | exact LeO.none _
      | refine LeO.ite ?_ ?_
      | refine LeO.bind ?_ (fun _ => ?_)
theorem kakugyolaw02_PieceKinds.mono : ∀ a0 k, LeO (kakugyolaw02_PieceKinds.f k a0) (kakugyolaw02_PieceKinds.f (k + 1) a0) := by
  intro a0 k
  have ih0 := kakugyolaw02_PieceKinds.mono_l k
  unfold kakugyolaw02_PieceKinds.f
  repeat' first
      | (with_reducible exact ih0 _ _ _ _)
      | (with_reducible exact kakugyolaw02_names.mono _)
      | (with_reducible exact kakugyoref02_Name.mono _ _)
      | (with_reducible exact kakugyoref02_Raw.mono _ _)
      | (with_reducible exact piece_Kind.mono _ _)
      | (with_reducible exact piece_Name.mono _ _)
      | (with_reducible exact piece_Side.mono _ _)
      | (with_reducible exact LeO.refl _)
      | (with_reducible exact LeO.none _)
      | (with_reducible refine LeO.ite ?_ ?_)
      | (with_reducible refine LeO.bind ?_ (fun _ => ?_))
      | exact ih0 _ _ _ _
      | exact kakugyolaw02_names.mono _
      | exact kakugyoref02_Name.mono _ _
      | exact kakugyoref02_Raw.mono _ _
      | exact piece_Kind.mono _ _
      | exact piece_Name.mono _ _
      | exact piece_Side.mono _ _
      | exact LeO.none _
      | refine LeO.ite ?_ ?_
      | refine LeO.bind ?_ (fun _ => ?_)
set_option maxHeartbeats 8000000 in
set_option maxRecDepth 100000 in
theorem kakugyolaw02_PieceKinds.calls (k : Nat) (a0 : Int) (r : Bool) (w : World) (h : kakugyolaw02_PieceKinds.f k a0 = some r) :
    Calls Try.prog 3 #[.int .i8 a0] w fun e w' => e = .returned (.bool r) ∧ Below w.heap.size w w' := by
  have HB := Aside0.mk (Below.refl w.heap.size w)
  have H : ((kakugyolaw02_names.f k).bind fun t141 => (if t141 = true then ((piece_Kind.f k a0).bind fun t142 => ((piece_Side.f k a0).bind fun t143 => ((kakugyoref02_Kind.f (wrap64 (a0))).bind fun t144 => (if t142 = t144 then ((kakugyoref02_Side.f (wrap64 (a0))).bind fun t145 => (if t143 = t145 then ((piece_Name.f k a0).bind fun t146 => ((kakugyoref02_Name.f k (wrap64 (a0))).bind fun t147 => (kakugyolaw02_PieceKinds.j0 k a0 t142 t143 (t146.toList != t147.toList)))) else (kakugyolaw02_PieceKinds.j0 k a0 t142 t143 true))) else (kakugyolaw02_PieceKinds.j0 k a0 t142 t143 true))))) else (some false))) = some r := h
  clear h
  replace H := Option.bind_eq_some_iff.mp H
  obtain ⟨t141, A20, H⟩ := H
  replace H : (if t141 = true then ((piece_Kind.f k a0).bind fun t142 => ((piece_Side.f k a0).bind fun t143 => ((kakugyoref02_Kind.f (wrap64 (a0))).bind fun t144 => (if t142 = t144 then ((kakugyoref02_Side.f (wrap64 (a0))).bind fun t145 => (if t143 = t145 then ((piece_Name.f k a0).bind fun t146 => ((kakugyoref02_Name.f k (wrap64 (a0))).bind fun t147 => (kakugyolaw02_PieceKinds.j0 k a0 t142 t143 (t146.toList != t147.toList)))) else (kakugyolaw02_PieceKinds.j0 k a0 t142 t143 true))) else (kakugyolaw02_PieceKinds.j0 k a0 t142 t143 true))))) else (some false)) = some r := H
  have A2 := Aside0.mk A20
  clear A20
  by_cases c3 : t141 = true
  · subst c3
    have H1 : ((piece_Kind.f k a0).bind fun t142 => ((piece_Side.f k a0).bind fun t143 => ((kakugyoref02_Kind.f (wrap64 (a0))).bind fun t144 => (if t142 = t144 then ((kakugyoref02_Side.f (wrap64 (a0))).bind fun t145 => (if t143 = t145 then ((piece_Name.f k a0).bind fun t146 => ((kakugyoref02_Name.f k (wrap64 (a0))).bind fun t147 => (kakugyolaw02_PieceKinds.j0 k a0 t142 t143 (t146.toList != t147.toList)))) else (kakugyolaw02_PieceKinds.j0 k a0 t142 t143 true))) else (kakugyolaw02_PieceKinds.j0 k a0 t142 t143 true))))) = some r := by rw [if_pos rfl] at H; exact H
    clear H
    have H := H1
    clear H1
    replace H := Option.bind_eq_some_iff.mp H
    obtain ⟨t142, A40, H⟩ := H
    replace H : ((piece_Side.f k a0).bind fun t143 => ((kakugyoref02_Kind.f (wrap64 (a0))).bind fun t144 => (if t142 = t144 then ((kakugyoref02_Side.f (wrap64 (a0))).bind fun t145 => (if t143 = t145 then ((piece_Name.f k a0).bind fun t146 => ((kakugyoref02_Name.f k (wrap64 (a0))).bind fun t147 => (kakugyolaw02_PieceKinds.j0 k a0 t142 t143 (t146.toList != t147.toList)))) else (kakugyolaw02_PieceKinds.j0 k a0 t142 t143 true))) else (kakugyolaw02_PieceKinds.j0 k a0 t142 t143 true)))) = some r := H
    have A4 := Aside0.mk A40
    clear A40
    replace H := Option.bind_eq_some_iff.mp H
    obtain ⟨t143, A50, H⟩ := H
    replace H : ((kakugyoref02_Kind.f (wrap64 (a0))).bind fun t144 => (if t142 = t144 then ((kakugyoref02_Side.f (wrap64 (a0))).bind fun t145 => (if t143 = t145 then ((piece_Name.f k a0).bind fun t146 => ((kakugyoref02_Name.f k (wrap64 (a0))).bind fun t147 => (kakugyolaw02_PieceKinds.j0 k a0 t142 t143 (t146.toList != t147.toList)))) else (kakugyolaw02_PieceKinds.j0 k a0 t142 t143 true))) else (kakugyolaw02_PieceKinds.j0 k a0 t142 t143 true))) = some r := H
    have A5 := Aside0.mk A50
    clear A50
    have HC6 := Aside0.mk H
    clear H
    go_enter Try.func3, Try.ntmps3
    go_upto_region 5 with (first | ((with_reducible refine gate_callee (f := 10) rfl ?_); refine goesL_ (some 6) rfl rfl Try.func10 (by kernel_rfl) rfl #[] rfl (by (try simp only [List.map_toArray, List.map_cons, List.map_nil]); first | done | rfl | (simp only [List.length_drop, List.length_take]; rfl)) ?_; (with_reducible refine (kakugyolaw02_names.calls k  true _ A2.out).mono ?_); rintro e w7 ⟨rfl, hb⟩; refine ⟨_, rfl, ?_⟩; have n0_ := Aside0.mk (below_step (by repeat (first | (with_reducible first | exact HB.out | apply below_alloc | apply pw_below_drewN | apply below_drew1) | exact HB.out)) hb); clear HB; have HB := n0_; clear n0_; (try clear hb); (try clear hb2); (try clear hk); (try clear hi)) | ((with_reducible refine gate_callee (f := 11) rfl ?_); refine goesL_ (some 11) rfl rfl Try.func11 (by kernel_rfl) rfl #[.int .i8 a0] rfl (by (try simp only [List.map_toArray, List.map_cons, List.map_nil]); first | done | rfl | (simp only [List.length_drop, List.length_take]; rfl)) ?_; (with_reducible refine (piece_Kind.calls k a0 t142 _ A4.out).mono ?_); rintro e w' ⟨rfl, ⟨nd, rfl⟩⟩; refine ⟨_, rfl, ?_⟩) | ((with_reducible refine gate_callee (f := 12) rfl ?_); refine goesL_ (some 13) rfl rfl Try.func12 (by kernel_rfl) rfl #[.int .i8 a0] rfl (by (try simp only [List.map_toArray, List.map_cons, List.map_nil]); first | done | rfl | (simp only [List.length_drop, List.length_take]; rfl)) ?_; (with_reducible refine (piece_Side.calls k a0 t143 _ A5.out).mono ?_); rintro e w' ⟨rfl, ⟨nd, rfl⟩⟩; refine ⟨_, rfl, ?_⟩))
    (try simp only [Act.put, List.setIfInBounds_toArray, List.set_cons_zero, List.set_cons_succ])
    go_cut [30] (fun v30 wc => ∃ (kq : Nat) (x30_5 : Bool), v30 = .bool x30_5 ∧ Aside0 (kakugyolaw02_PieceKinds.j0 kq a0 t142 t143 x30_5 = some r) ∧ Aside0 (kq ≤ k) ∧ Aside0 (Below w.heap.size w wc))
    case first =>
      have H := HC6.out
      clear HC6
      replace H := Option.bind_eq_some_iff.mp H
      obtain ⟨t144, A80, H⟩ := H
      replace H : (if t142 = t144 then ((kakugyoref02_Side.f (wrap64 (a0))).bind fun t145 => (if t143 = t145 then ((piece_Name.f k a0).bind fun t146 => ((kakugyoref02_Name.f k (wrap64 (a0))).bind fun t147 => (kakugyolaw02_PieceKinds.j0 k a0 t142 t143 (t146.toList != t147.toList)))) else (kakugyolaw02_PieceKinds.j0 k a0 t142 t143 true))) else (kakugyolaw02_PieceKinds.j0 k a0 t142 t143 true)) = some r := H
      have A8 := Aside0.mk A80
      clear A80
      by_cases c9 : t142 = t144
      · rw [if_pos c9] at H
        have c9b0 : (t142 == t144) = true := beq_iff_eq.mpr c9
        have c9b1 : (t142 != t144) = false := bne_eq_false_iff_eq.mpr c9
        clear c9
        (first | rw [c9b0] | (simp only [i64_w, i32_w]; rw [c9b0]) | skip)
        replace H := Option.bind_eq_some_iff.mp H
        obtain ⟨t145, A100, H⟩ := H
        replace H : (if t143 = t145 then ((piece_Name.f k a0).bind fun t146 => ((kakugyoref02_Name.f k (wrap64 (a0))).bind fun t147 => (kakugyolaw02_PieceKinds.j0 k a0 t142 t143 (t146.toList != t147.toList)))) else (kakugyolaw02_PieceKinds.j0 k a0 t142 t143 true)) = some r := H
        have A10 := Aside0.mk A100
        clear A100
        by_cases c11 : t143 = t145
        · rw [if_pos c11] at H
          have c11b0 : (t143 == t145) = true := beq_iff_eq.mpr c11
          have c11b1 : (t143 != t145) = false := bne_eq_false_iff_eq.mpr c11
          clear c11
          replace H := Option.bind_eq_some_iff.mp H
          obtain ⟨t146, A120, H⟩ := H
          replace H : ((kakugyoref02_Name.f k (wrap64 (a0))).bind fun t147 => (kakugyolaw02_PieceKinds.j0 k a0 t142 t143 (t146.toList != t147.toList))) = some r := H
          have A12 := Aside0.mk A120
          clear A120
          replace H := Option.bind_eq_some_iff.mp H
          obtain ⟨t147, A130, H⟩ := H
          replace H : (kakugyolaw02_PieceKinds.j0 k a0 t142 t143 (t146.toList != t147.toList)) = some r := H
          have A13 := Aside0.mk A130
          clear A130
          have H' := Aside0.mk H
          clear H
          go_wp2_with (first | ((with_reducible refine gate_callee (f := 13) rfl ?_); refine goesL_ (some 16) rfl rfl Try.func13 (by kernel_rfl) rfl #[.int .i64 (wrap64 (a0))] rfl (by (try simp only [List.map_toArray, List.map_cons, List.map_nil]); first | done | rfl | (simp only [List.length_drop, List.length_take]; rfl)) ?_; (with_reducible refine (kakugyoref02_Kind.calls (wrap64 (a0)) t144 _ A8.out).mono ?_); rintro e w' ⟨rfl, ⟨nd, rfl⟩⟩; refine ⟨_, rfl, ?_⟩) | (go_at_call 14; (with_reducible refine (kakugyoref02_Side.calls (wrap64 (a0)) t145 _ A10.out).mono ?_); rintro e w' ⟨rfl, ⟨nd, rfl⟩⟩) | (go_at_call 15; (with_reducible refine (piece_Name.calls k a0 t146 _ A12.out).mono ?_); rintro e w14 ⟨rfl, hb⟩; have n0_ := Aside0.mk (below_step (by repeat (first | (with_reducible first | exact HB.out | apply below_alloc | apply pw_below_drewN | apply below_drew1) | exact HB.out)) hb); clear HB; have HB := n0_; clear n0_; (try clear hb); (try clear hb2); (try clear hk); (try clear hi)) | (go_at_call 16; (with_reducible refine (kakugyoref02_Name.calls k (wrap64 (a0)) t147 _ A13.out).mono ?_); rintro e w15 ⟨rfl, hb⟩; have n0_ := Aside0.mk (below_step (by repeat (first | (with_reducible first | exact HB.out | apply below_alloc | apply pw_below_drewN | apply below_drew1) | exact HB.out)) hb); clear HB; have HB := n0_; clear n0_; (try clear hb); (try clear hb2); (try clear hk); (try clear hi)))
          go_meet
          case rel => exact ⟨_, ((t146.toList != t147.toList)), (by first | rfl | (simp; done) | (simp [*]; done)), H', ⟨by first | omega | exact Nat.le_refl _⟩, ⟨by repeat (first | (with_reducible first | exact HB.out | apply below_alloc | apply pw_below_drewN | apply below_drew1) | exact HB.out)⟩⟩
        · rw [if_neg c11] at H
          have c11b0 : (t143 == t145) = false := beq_eq_false_iff_ne.mpr c11
          have c11b1 : (t143 != t145) = true := bne_iff_ne.mpr c11
          have H' := Aside0.mk H
          clear H
          go_wp2_with (first | ((with_reducible refine gate_callee (f := 13) rfl ?_); refine goesL_ (some 16) rfl rfl Try.func13 (by kernel_rfl) rfl #[.int .i64 (wrap64 (a0))] rfl (by (try simp only [List.map_toArray, List.map_cons, List.map_nil]); first | done | rfl | (simp only [List.length_drop, List.length_take]; rfl)) ?_; (with_reducible refine (kakugyoref02_Kind.calls (wrap64 (a0)) t144 _ A8.out).mono ?_); rintro e w' ⟨rfl, ⟨nd, rfl⟩⟩; refine ⟨_, rfl, ?_⟩) | (go_at_call 14; (with_reducible refine (kakugyoref02_Side.calls (wrap64 (a0)) t145 _ A10.out).mono ?_); rintro e w' ⟨rfl, ⟨nd, rfl⟩⟩))
          go_meet
          case rel => exact ⟨_, (true), (by first | rfl | (simp; done) | (simp [*]; done)), H', ⟨by first | omega | exact Nat.le_refl _⟩, ⟨by repeat (first | (with_reducible first | exact HB.out | apply below_alloc | apply pw_below_drewN | apply below_drew1) | exact HB.out)⟩⟩
      · rw [if_neg c9] at H
        have c9b0 : (t142 == t144) = false := beq_eq_false_iff_ne.mpr c9
        have c9b1 : (t142 != t144) = true := bne_iff_ne.mpr c9
        (first | rw [c9b0] | (simp only [i64_w, i32_w]; rw [c9b0]) | skip)
        have H' := Aside0.mk H
        clear H
        go_wp2_with (first | ((with_reducible refine gate_callee (f := 13) rfl ?_); refine goesL_ (some 16) rfl rfl Try.func13 (by kernel_rfl) rfl #[.int .i64 (wrap64 (a0))] rfl (by (try simp only [List.map_toArray, List.map_cons, List.map_nil]); first | done | rfl | (simp only [List.length_drop, List.length_take]; rfl)) ?_; (with_reducible refine (kakugyoref02_Kind.calls (wrap64 (a0)) t144 _ A8.out).mono ?_); rintro e w' ⟨rfl, ⟨nd, rfl⟩⟩; refine ⟨_, rfl, ?_⟩))
        go_meet
        case rel => exact ⟨_, (true), (by first | rfl | (simp; done) | (simp [*]; done)), H', ⟨by first | omega | exact Nat.le_refl _⟩, ⟨by repeat (first | (with_reducible first | exact HB.out | apply below_alloc | apply pw_below_drewN | apply below_drew1) | exact HB.out)⟩⟩
    case rest =>
      clear HC6
      try clear c1
      try clear p2
      try clear c3
      try clear p6
      try clear c9
      try clear c9b0
      try clear c9b1
      try clear c10
      try clear c11
      try clear c11b0
      try clear c11b1
      try clear c12
      try clear c13
      obtain ⟨kq, x30_5, rfl, HA, HJ5, HB⟩ := hcut
      cases kq with
      | zero => exact absurd HA.out (by simp [kakugyolaw02_PieceKinds.j0])
      | succ kj5 =>
        have H := HA.out
        clear HA
        simp only [kakugyolaw02_PieceKinds.j0] at H
        by_cases c16 : x30_5 = true
        · subst c16
          have H1 : (some false) = some r := by rw [if_pos rfl] at H; exact H
          clear H
          have H := H1
          clear H1
          obtain rfl := Option.some.inj H
          go_wp2
          go_ret
          exact ⟨by first | rfl | (simp [errW_none, errW_some] <;> rfl) | (simp [*, errW_none, errW_some] <;> rfl) | (simp [*, errW_none, errW_some]; generalize ByteArray.toList _ = q_; cases q_ <;> rfl), by repeat (first | (with_reducible first | exact HB.out | apply below_alloc | apply pw_below_drewN | apply below_drew1) | exact HB.out)⟩
        · replace c16 := Bool.eq_false_iff.mpr c16
          subst c16
          have H1 : (if t142 = 0 then (some true) else ((piece_Of.f t143 t142).bind fun t148 => (if t148 = a0 then ((piece_Raw.f t142).bind fun t149 => ((kakugyoref02_Raw.f kj5 t142).bind fun t150 => (some (t149 == t150)))) else (some false)))) = some r := by rw [if_neg (show ¬ (false = true) by decide)] at H; exact H
          clear H
          have H := H1
          clear H1
          by_cases c17 : t142 = 0
          · rw [if_pos c17] at H
            have c17b0 : (t142 == 0) = true := beq_iff_eq.mpr c17
            have c17b1 : (t142 != 0) = false := bne_eq_false_iff_eq.mpr c17
            clear c17
            obtain rfl := Option.some.inj H
            go_wp2
            go_ret
            exact ⟨by first | rfl | (simp [errW_none, errW_some] <;> rfl) | (simp [*, errW_none, errW_some] <;> rfl) | (simp [*, errW_none, errW_some]; generalize ByteArray.toList _ = q_; cases q_ <;> rfl), by repeat (first | (with_reducible first | exact HB.out | apply below_alloc | apply pw_below_drewN | apply below_drew1) | exact HB.out)⟩
          · rw [if_neg c17] at H
            have c17b0 : (t142 == 0) = false := beq_eq_false_iff_ne.mpr c17
            have c17b1 : (t142 != 0) = true := bne_iff_ne.mpr c17
            replace H := Option.bind_eq_some_iff.mp H
            obtain ⟨t148, A180, H⟩ := H
            replace H : (if t148 = a0 then ((piece_Raw.f t142).bind fun t149 => ((kakugyoref02_Raw.f kj5 t142).bind fun t150 => (some (t149 == t150)))) else (some false)) = some r := H
            have A18 := Aside0.mk A180
            clear A180
            by_cases c19 : t148 = a0
            · rw [if_pos c19] at H
              have c19b0 : (t148 == a0) = true := beq_iff_eq.mpr c19
              have c19b1 : (t148 != a0) = false := bne_eq_false_iff_eq.mpr c19
              clear c19
              replace H := Option.bind_eq_some_iff.mp H
              obtain ⟨t149, A200, H⟩ := H
              replace H : ((kakugyoref02_Raw.f kj5 t142).bind fun t150 => (some (t149 == t150))) = some r := H
              have A20 := Aside0.mk A200
              clear A200
              replace H := Option.bind_eq_some_iff.mp H
              obtain ⟨t150, A210, H⟩ := H
              replace H : (some (t149 == t150)) = some r := H
              have A21 := Aside0.mk A210
              clear A210
              obtain rfl := Option.some.inj H
              go_wp2_with (first | (go_at_call 17; (with_reducible refine (piece_Of.calls t143 t142 t148 _ A18.out).mono ?_); rintro e w' ⟨rfl, ⟨nd, rfl⟩⟩) | (go_at_call 18; (with_reducible refine (piece_Raw.calls t142 t149 _ A20.out).mono ?_); rintro e w' ⟨rfl, ⟨nd, rfl⟩⟩) | (go_at_call 19; (with_reducible refine (kakugyoref02_Raw.calls kj5 t142 t150 _ A21.out).mono ?_); rintro e w' ⟨rfl, ⟨nd, rfl⟩⟩))
              go_ret
              exact ⟨by first | rfl | (simp [errW_none, errW_some] <;> rfl) | (simp [*, errW_none, errW_some] <;> rfl) | (simp [*, errW_none, errW_some]; generalize ByteArray.toList _ = q_; cases q_ <;> rfl), by repeat (first | (with_reducible first | exact HB.out | apply below_alloc | apply pw_below_drewN | apply below_drew1) | exact HB.out)⟩
            · rw [if_neg c19] at H
              have c19b0 : (t148 == a0) = false := beq_eq_false_iff_ne.mpr c19
              have c19b1 : (t148 != a0) = true := bne_iff_ne.mpr c19
              obtain rfl := Option.some.inj H
              go_wp2_with (first | (go_at_call 17; (with_reducible refine (piece_Of.calls t143 t142 t148 _ A18.out).mono ?_); rintro e w' ⟨rfl, ⟨nd, rfl⟩⟩))
              go_ret
              exact ⟨by first | rfl | (simp [errW_none, errW_some] <;> rfl) | (simp [*, errW_none, errW_some] <;> rfl) | (simp [*, errW_none, errW_some]; generalize ByteArray.toList _ = q_; cases q_ <;> rfl), by repeat (first | (with_reducible first | exact HB.out | apply below_alloc | apply pw_below_drewN | apply below_drew1) | exact HB.out)⟩
  · replace c3 := Bool.eq_false_iff.mpr c3
    subst c3
    have H1 : (some false) = some r := by rw [if_neg (show ¬ (false = true) by decide)] at H; exact H
    clear H
    have H := H1
    clear H1
    obtain rfl := Option.some.inj H
    go_enter Try.func3, Try.ntmps3
    go_wp2_with (first | ((with_reducible refine gate_callee (f := 10) rfl ?_); refine goesL_ (some 6) rfl rfl Try.func10 (by kernel_rfl) rfl #[] rfl (by (try simp only [List.map_toArray, List.map_cons, List.map_nil]); first | done | rfl | (simp only [List.length_drop, List.length_take]; rfl)) ?_; (with_reducible refine (kakugyolaw02_names.calls k  false _ A2.out).mono ?_); rintro e w22 ⟨rfl, hb⟩; refine ⟨_, rfl, ?_⟩; have n0_ := Aside0.mk (below_step (by repeat (first | (with_reducible first | exact HB.out | apply below_alloc | apply pw_below_drewN | apply below_drew1) | exact HB.out)) hb); clear HB; have HB := n0_; clear n0_; (try clear hb); (try clear hb2); (try clear hk); (try clear hi)))
    go_ret
    exact ⟨by first | rfl | (simp [errW_none, errW_some] <;> rfl) | (simp [*, errW_none, errW_some] <;> rfl) | (simp [*, errW_none, errW_some]; generalize ByteArray.toList _ = q_; cases q_ <;> rfl), by repeat (first | (with_reducible first | exact HB.out | apply below_alloc | apply pw_below_drewN | apply below_drew1) | exact HB.out)⟩

/-- THE ONE PURE STATEMENT of kakugyolaw02_PieceKinds: yours. -/
def kakugyolaw02_PieceKinds.Pure : Prop := ∀ (a0 : Int), (Lit.int .i8 a0).wf = true → ∃ k, kakugyolaw02_PieceKinds.f k a0 = some true
theorem kakugyolaw02_PieceKinds.walk (P : kakugyolaw02_PieceKinds.Pure) (a0 : Int) (w : World) (w0 : (Lit.int .i8 a0).wf = true) :
    Calls Try.prog 3 #[.int .i8 a0] w fun e w' => e = .returned (.bool true) ∧ Below w.heap.size w w' := by
  obtain ⟨k, h⟩ := P a0 w0
  refine (kakugyolaw02_PieceKinds.calls k a0 true w h).mono ?_
  rintro e w' ⟨rfl, hd⟩
  exact ⟨rfl, hd⟩

/-! ### piece_FromSign: function 21 -/
def piece_FromSign.l0 : Nat → Int → Int → Option (Int)
  | 0, _, _ => none
  | k + 1, x0, x3 => if x3 ≤ 15 then ((piece_Sign.f x3).bind fun t151 => (if t151 = x0 then (some x3) else (piece_FromSign.l0 k x0 (wrap64 (x3 + 1))))) else (some 0)
def piece_FromSign.f (k : Nat) (a0 : Int) : Option (Int) := if a0 = 29579 then (some 8) else (if a0 = 31452 then (some 15) else (if a0 = 12539 then (some 0) else (piece_FromSign.l0 k a0 1)))
theorem piece_FromSign.mono_l : ∀ k, (∀ y0 y1, LeO (piece_FromSign.l0 k y0 y1) (piece_FromSign.l0 (k + 1) y0 y1))
  | 0 => fun _ _ r h => by simp [piece_FromSign.l0] at h
  | k + 1 => by
    have ih0 := piece_FromSign.mono_l k
    · intro y0 y1
      unfold piece_FromSign.l0
      repeat' first
      | (with_reducible exact ih0 _ _)
      | (with_reducible exact LeO.refl _)
      | (with_reducible exact LeO.none _)
      | (with_reducible refine LeO.ite ?_ ?_)
      | (with_reducible refine LeO.bind ?_ (fun _ => ?_))
      | exact ih0 _ _
      | exact LeO.none _
      | refine LeO.ite ?_ ?_
      | refine LeO.bind ?_ (fun _ => ?_)
theorem piece_FromSign.mono : ∀ a0 k, LeO (piece_FromSign.f k a0) (piece_FromSign.f (k + 1) a0) := by
  intro a0 k
  have ih0 := piece_FromSign.mono_l k
  unfold piece_FromSign.f
  repeat' first
      | (with_reducible exact ih0 _ _)
      | (with_reducible exact LeO.refl _)
      | (with_reducible exact LeO.none _)
      | (with_reducible refine LeO.ite ?_ ?_)
      | (with_reducible refine LeO.bind ?_ (fun _ => ?_))
      | exact ih0 _ _
      | exact LeO.none _
      | refine LeO.ite ?_ ?_
      | refine LeO.bind ?_ (fun _ => ?_)
set_option maxHeartbeats 8000000 in
set_option maxRecDepth 100000 in
theorem piece_FromSign.calls (k : Nat) (a0 : Int) (r : Int) (w : World) (h : piece_FromSign.f k a0 = some r) :
    Calls Try.prog 21 #[.int .i32 a0] w fun e w' => e = .returned (.int .i64 r) ∧ Below w.heap.size w w' := by
  have HB := Aside0.mk (Below.refl w.heap.size w)
  have H : (if a0 = 29579 then (some 8) else (if a0 = 31452 then (some 15) else (if a0 = 12539 then (some 0) else (piece_FromSign.l0 k a0 1)))) = some r := h
  clear h
  by_cases c2 : a0 = 29579
  · rw [if_pos c2] at H
    have c2b0 : (a0 == 29579) = true := beq_iff_eq.mpr c2
    have c2b1 : (a0 != 29579) = false := bne_eq_false_iff_eq.mpr c2
    clear c2
    obtain rfl := Option.some.inj H
    go_enter Try.func21, Try.ntmps21
    go_wp2
    go_ret
    exact ⟨by first | rfl | (simp [errW_none, errW_some] <;> rfl) | (simp [*, errW_none, errW_some] <;> rfl) | (simp [*, errW_none, errW_some]; generalize ByteArray.toList _ = q_; cases q_ <;> rfl), by repeat (first | (with_reducible first | exact HB.out | apply below_alloc | apply pw_below_drewN | apply below_drew1) | exact HB.out)⟩
  · rw [if_neg c2] at H
    have c2b0 : (a0 == 29579) = false := beq_eq_false_iff_ne.mpr c2
    have c2b1 : (a0 != 29579) = true := bne_iff_ne.mpr c2
    by_cases c3 : a0 = 31452
    · rw [if_pos c3] at H
      have c3b0 : (a0 == 31452) = true := beq_iff_eq.mpr c3
      have c3b1 : (a0 != 31452) = false := bne_eq_false_iff_eq.mpr c3
      clear c3
      obtain rfl := Option.some.inj H
      go_enter Try.func21, Try.ntmps21
      go_wp2
      go_ret
      exact ⟨by first | rfl | (simp [errW_none, errW_some] <;> rfl) | (simp [*, errW_none, errW_some] <;> rfl) | (simp [*, errW_none, errW_some]; generalize ByteArray.toList _ = q_; cases q_ <;> rfl), by repeat (first | (with_reducible first | exact HB.out | apply below_alloc | apply pw_below_drewN | apply below_drew1) | exact HB.out)⟩
    · rw [if_neg c3] at H
      have c3b0 : (a0 == 31452) = false := beq_eq_false_iff_ne.mpr c3
      have c3b1 : (a0 != 31452) = true := bne_iff_ne.mpr c3
      by_cases c4 : a0 = 12539
      · rw [if_pos c4] at H
        have c4b0 : (a0 == 12539) = true := beq_iff_eq.mpr c4
        have c4b1 : (a0 != 12539) = false := bne_eq_false_iff_eq.mpr c4
        clear c4
        obtain rfl := Option.some.inj H
        go_enter Try.func21, Try.ntmps21
        go_wp2
        go_ret
        exact ⟨by first | rfl | (simp [errW_none, errW_some] <;> rfl) | (simp [*, errW_none, errW_some] <;> rfl) | (simp [*, errW_none, errW_some]; generalize ByteArray.toList _ = q_; cases q_ <;> rfl), by repeat (first | (with_reducible first | exact HB.out | apply below_alloc | apply pw_below_drewN | apply below_drew1) | exact HB.out)⟩
      · rw [if_neg c4] at H
        have c4b0 : (a0 == 12539) = false := beq_eq_false_iff_ne.mpr c4
        have c4b1 : (a0 != 12539) = true := bne_iff_ne.mpr c4
        have H' := Aside0.mk H
        clear H
        go_enter Try.func21, Try.ntmps21
        go_wp2
        go_loopg [3] k (fun kq v3 w' => ∃ (x3_1 : Int), v3 = .int .i64 x3_1 ∧ Aside0 (piece_FromSign.l0 kq a0 x3_1 = some r) ∧ Aside0 (kq ≤ k) ∧ Aside0 (Below w.heap.size w w'))
        case atStart => exact ⟨(1), (by first | rfl | (simp; done) | (simp [*]; done)), H', ⟨Nat.le_refl _⟩, ⟨by repeat (first | (with_reducible first | exact HB.out | apply below_alloc | apply pw_below_drewN | apply below_drew1) | exact HB.out)⟩⟩
        case round =>
          clear H'
          try clear c2
          try clear c2b0
          try clear c2b1
          try clear p2
          try clear c3
          try clear c3b0
          try clear c3b1
          try clear c4
          try clear c4b0
          try clear c4b1
          obtain ⟨x3_1, rfl, HA, HK1, HB⟩ := hrel
          cases gk with
          | zero => exact absurd HA.out (by simp [piece_FromSign.l0])
          | succ k1 =>
            have H := HA.out
            clear HA
            simp only [piece_FromSign.l0] at H
            by_cases c5 : x3_1 ≤ 15
            · rw [if_pos c5] at H
              have c5b0 : decide (x3_1 ≤ 15) = true := decide_eq_true c5
              clear c5
              replace H := Option.bind_eq_some_iff.mp H
              obtain ⟨t151, A60, H⟩ := H
              replace H : (if t151 = a0 then (some x3_1) else (piece_FromSign.l0 k1 a0 (wrap64 (x3_1 + 1)))) = some r := H
              have A6 := Aside0.mk A60
              clear A60
              by_cases c7 : t151 = a0
              · rw [if_pos c7] at H
                have c7b0 : (t151 == a0) = true := beq_iff_eq.mpr c7
                have c7b1 : (t151 != a0) = false := bne_eq_false_iff_eq.mpr c7
                clear c7
                obtain rfl := Option.some.inj H
                go_wp2_with (first | ((with_reducible refine gate_callee (f := 20) rfl ?_); refine goesL_ (some 16) rfl rfl Try.func20 (by kernel_rfl) rfl #[.int .i64 x3_1] rfl (by (try simp only [List.map_toArray, List.map_cons, List.map_nil]); first | done | rfl | (simp only [List.length_drop, List.length_take]; rfl)) ?_; (with_reducible refine (piece_Sign.calls x3_1 t151 _ A6.out).mono ?_); rintro e w8 ⟨rfl, hb⟩; refine ⟨_, rfl, ?_⟩; have n0_ := Aside0.mk (below_step (by repeat (first | (with_reducible first | exact HB.out | apply below_alloc | apply pw_below_drewN | apply below_drew1) | exact HB.out)) hb); clear HB; have HB := n0_; clear n0_; (try clear hb); (try clear hb2); (try clear hk); (try clear hi)))
                go_ret
                exact ⟨by first | rfl | (simp [errW_none, errW_some] <;> rfl) | (simp [*, errW_none, errW_some] <;> rfl) | (simp [*, errW_none, errW_some]; generalize ByteArray.toList _ = q_; cases q_ <;> rfl), by repeat (first | (with_reducible first | exact HB.out | apply below_alloc | apply pw_below_drewN | apply below_drew1) | exact HB.out)⟩
              · rw [if_neg c7] at H
                have c7b0 : (t151 == a0) = false := beq_eq_false_iff_ne.mpr c7
                have c7b1 : (t151 != a0) = true := bne_iff_ne.mpr c7
                have H' := Aside0.mk H
                clear H
                go_wp2_with (first | ((with_reducible refine gate_callee (f := 20) rfl ?_); refine goesL_ (some 16) rfl rfl Try.func20 (by kernel_rfl) rfl #[.int .i64 x3_1] rfl (by (try simp only [List.map_toArray, List.map_cons, List.map_nil]); first | done | rfl | (simp only [List.length_drop, List.length_take]; rfl)) ?_; (with_reducible refine (piece_Sign.calls x3_1 t151 _ A6.out).mono ?_); rintro e w9 ⟨rfl, hb⟩; refine ⟨_, rfl, ?_⟩; have n0_ := Aside0.mk (below_step (by repeat (first | (with_reducible first | exact HB.out | apply below_alloc | apply pw_below_drewN | apply below_drew1) | exact HB.out)) hb); clear HB; have HB := n0_; clear n0_; (try clear hb); (try clear hb2); (try clear hk); (try clear hi)))
                go_roundg k1
                case measure => have := HK1.out; omega
                case rel => exact ⟨(wrap64 (x3_1 + 1)), (by first | rfl | (simp; done) | (simp [*]; done)), H', ⟨by have := HK1.out; omega⟩, ⟨by repeat (first | (with_reducible first | exact HB.out | apply below_alloc | apply pw_below_drewN | apply below_drew1) | exact HB.out)⟩⟩
            · rw [if_neg c5] at H
              have c5b0 : decide (x3_1 ≤ 15) = false := decide_eq_false c5
              clear c5
              obtain rfl := Option.some.inj H
              go_wp2
              go_ret
              exact ⟨by first | rfl | (simp [errW_none, errW_some] <;> rfl) | (simp [*, errW_none, errW_some] <;> rfl) | (simp [*, errW_none, errW_some]; generalize ByteArray.toList _ = q_; cases q_ <;> rfl), by repeat (first | (with_reducible first | exact HB.out | apply below_alloc | apply pw_below_drewN | apply below_drew1) | exact HB.out)⟩

end Go.Proofs.Ytnmfkhnddnohjaa.Pa
