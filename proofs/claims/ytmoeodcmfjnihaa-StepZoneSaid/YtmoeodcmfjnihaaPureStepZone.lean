/- For every side and number the law StepZone answers true: the two sides and the 81 squares one by one, all others together. -/
import Derived.Test.YtmoeodcmfjnihaaPax11
import Derived.OpenShut
namespace Go.Proofs.Ytmoeodcmfjnihaa.Pure
open Go.RowKit Go.Proofs.Ytmoeodcmfjnihaa.Pa Go.Proofs.YtmoeodcmfjnihaaW.PrintWords Go.Proofs.YtmoeodcmfjnihaaW.PrintLast Go.Proofs.YtmoeodcmfjnihaaW.PrintMore
set_option linter.unusedVariables false
set_option linter.unusedSimpArgs false

theorem all_i8 (P : Int → Bool) (h : (List.range 256).all (fun n => P ((n : Int) - 128)) = true) (a : Int) (ha : (Lit.int .i8 a).wf = true) : P a = true := by
  have hb := bounds_i8 ha
  have := List.all_eq_true.1 h (a + 128).toNat (List.mem_range.2 (by omega))
  rw [show (((a + 128).toNat : Nat) : Int) - 128 = a by omega] at this
  exact this
theorem all_to (m : Nat) (P : Int → Bool) (h : (List.range m).all (fun n => P (n : Int)) = true) (a : Int) (h0 : 0 ≤ a) (h1 : a < m) : P a = true := by
  have := List.all_eq_true.1 h a.toNat (List.mem_range.2 (by omega))
  rw [show ((a.toNat : Nat) : Int) = a by omega] at this
  exact this
theorem of_beq_some {o : Option Bool} (h : (o == some true) = true) : o = some true := by simpa using h

theorem zone_other (s : Int) (h0 : s ≠ 0) (h1 : s ≠ 1) : ∀ (d k : Nat) (i : Int), 0 ≤ i → i ≤ 81 → (81 : Int) - i = d → d + 10 < k → step_Zone.l0 k s i 0 0 = some (0, 0) := by
  intro d
  induction d with
  | zero =>
    intro k i a b c hk
    obtain ⟨k, rfl⟩ : ∃ q, k = q + 1 := ⟨k - 1, by omega⟩
    simp only [step_Zone.l0]
    rw [if_neg (by omega)]
  | succ d ih =>
    intro k i a b c hk
    obtain ⟨k, rfl⟩ : ∃ q, k = q + 1 := ⟨k - 1, by omega⟩
    obtain ⟨k2, rfl⟩ : ∃ q, k = q + 1 := ⟨k - 1, by omega⟩
    simp only [step_Zone.l0]
    have hf : step_Far.f (k2 + 1) s i = some (-1) := by
      unfold step_Far.f
      rw [if_neg (by omega), show (decide (i ≥ 81)) = false from decide_eq_false (by omega)]
      simp only [step_Far.j0]
      rw [if_neg (by decide), if_neg h0, if_neg h1]
    rw [if_pos (by omega), hf]
    simp only [Option.bind_some]
    rw [if_neg (by decide), show wrap64 (i + 1) = i + 1 by unfold wrap64; omega]
    exact ih (k2 + 1) (i + 1) (by omega) (by omega) (by omega) (by omega)
theorem far_other (k : Nat) (s q : Int) (h : (s ≠ 0 ∧ s ≠ 1) ∨ q < 0 ∨ 80 < q) : step_Far.f (k + 1) s q = some (-1) ∧ kakugyoref03_Far.f (k + 1) s q = some (-1) := by
  constructor
  · unfold step_Far.f
    by_cases a : q < 0
    · rw [if_pos a]; simp only [step_Far.j0]; rw [if_pos trivial]
    · rw [if_neg a]
      by_cases b : q ≥ 81
      · rw [decide_eq_true b]; simp only [step_Far.j0]; rw [if_pos trivial]
      · rw [decide_eq_false b]; simp only [step_Far.j0]
        rw [if_neg (by decide), if_neg (by omega), if_neg (by omega)]
  · unfold kakugyoref03_Far.f
    have hj : kakugyoref03_Far.j0 (k + 1) s q true = some (-1) := by simp only [kakugyoref03_Far.j0]; rw [if_pos trivial]
    by_cases a : q < 0
    · rw [if_pos a, hj]
    · rw [if_neg a]
      by_cases b : q > 80
      · rw [if_pos b, hj]
      · rw [if_neg b]
        by_cases c : s < 0
        · rw [if_pos c, hj]
        · rw [if_neg c, decide_eq_true (show s > 1 by omega), hj]
/-- What a set has of what is no square: nothing. -/
theorem bit_out (k : Nat) (q : Int) (h : q < 0 ∨ 80 < q) : set_bit.f (k + 1) q = some (0, 0) := by
  unfold set_bit.f
  have hj : set_bit.j0 (k + 1) q true = some (0, 0) := by simp only [set_bit.j0]; rw [if_pos trivial]
  by_cases a : q < 0
  · rw [if_pos a, hj]
  · rw [if_neg a, decide_eq_true (show q ≥ 81 by omega), hj]
theorem zone_out (s : Int) (hs : s = 0 ∨ s = 1) (q : Int) (h : q < 0 ∨ 80 < q) : kakugyolaw03_StepZone.f 120 s q = some true := by
  have hn : kakugyolaw03_steps.f 120 = some true := by decide +kernel
  obtain ⟨f1, f2⟩ := far_other 119 s q (.inr h)
  have hz : ∃ a b, step_Zone.f 120 s = some (a, b) ∧ set_Set_Count.f a b = some 27 := by
    rcases hs with rfl | rfl
    · exact ⟨((step_Zone.f 120 0).getD (0, 0)).1, ((step_Zone.f 120 0).getD (0, 0)).2, by decide +kernel, by decide +kernel⟩
    · exact ⟨((step_Zone.f 120 1).getD (0, 0)).1, ((step_Zone.f 120 1).getD (0, 0)).2, by decide +kernel, by decide +kernel⟩
  obtain ⟨a, b, hz, hc⟩ := hz
  have hj : kakugyolaw03_StepZone.j0 120 q (-1) false a b = some true := by
    show kakugyolaw03_StepZone.j0 (119 + 1) q (-1) false a b = _
    simp only [kakugyolaw03_StepZone.j0]
    rw [if_neg (by decide), hc]
    simp only [Option.bind_some]
    have hh : set_Set_Has.f 119 a b q = some false := by
      unfold set_Set_Has.f
      rw [bit_out 118 q h]
      have e1 : Go.bits .and .u64 a 0 = 0 := by simp [Go.bits]; decide
      have e2 : Go.bits .and .u64 b 0 = 0 := by simp [Go.bits]; decide
      simp only [Option.bind_some, set_Set_And.f, set_Set_Empty.f, e1, e2]
      rfl
    rw [if_pos trivial, hh]
    rfl
  unfold kakugyolaw03_StepZone.f
  rw [hn, f1, f2]
  simp only [Option.bind_some, if_true]
  rw [hz]
  simp only [Option.bind_some]
  rcases hs with rfl | rfl
  · rw [if_pos rfl, hj]
  · rw [if_neg (by decide), show ((1 : Int) != 1) = false from rfl, hj]
theorem StepZone : kakugyolaw03_StepZone.Pure := by
  intro s q _ _
  refine ⟨120, ?_⟩
  by_cases hs : s = 0 ∨ s = 1
  · by_cases h : 0 ≤ q ∧ q < (81 : Nat)
    · rcases hs with rfl | rfl
      · exact of_beq_some (all_to 81 (fun q => kakugyolaw03_StepZone.f 120 0 q == some true) (by decide +kernel) q h.1 h.2)
      · exact of_beq_some (all_to 81 (fun q => kakugyolaw03_StepZone.f 120 1 q == some true) (by decide +kernel) q h.1 h.2)
    · exact zone_out s hs q (by omega)
  · have h0 : s ≠ 0 := fun h => hs (.inl h)
    have h1 : s ≠ 1 := fun h => hs (.inr h)
    have hn : kakugyolaw03_steps.f 120 = some true := by decide +kernel
    obtain ⟨f1, f2⟩ := far_other 119 s q (.inl ⟨h0, h1⟩)
    have hz : step_Zone.f 120 s = some (0, 0) := zone_other s h0 h1 81 120 0 (by omega) (by omega) (by omega) (by omega)
    unfold kakugyolaw03_StepZone.f
    rw [hn, f1, f2]
    simp only [Option.bind_some, if_true]
    rw [hz]
    simp only [Option.bind_some]
    rw [if_neg h0, show (s != 1) = true from bne_iff_ne.2 h1]
    show kakugyolaw03_StepZone.j0 (119 + 1) q (-1) true 0 0 = _
    simp only [kakugyolaw03_StepZone.j0]
    rw [if_pos trivial]
    rfl

end Go.Proofs.Ytmoeodcmfjnihaa.Pure
