/- For every int the law DigitSigns answers true: the digits 0 to 9 one by one, all other numbers together. -/
import Derived.Test.YtnmfkhnddnohjabPax2
import Derived.OpenShut
namespace Go.Proofs.Ytnmfkhnddnohjab.Pure
open Go.RowKit Go.Proofs.Ytnmfkhnddnohjab.Pa Go.Proofs.YtnmfkhnddnohjabW.PrintWords Go.Proofs.YtnmfkhnddnohjabW.PrintLast
set_option linter.unusedVariables false
set_option linter.unusedSimpArgs false

theorem all_i8 (P : Int → Bool) (h : (List.range 256).all (fun n => P ((n : Int) - 128)) = true) (a : Int) (ha : (Lit.int .i8 a).wf = true) : P a = true := by
  have hb := bounds_i8 ha
  have := List.all_eq_true.1 h (a + 128).toNat (List.mem_range.2 (by omega))
  rw [show (((a + 128).toNat : Nat) : Int) - 128 = a by omega] at this
  exact this
theorem all_to (m : Nat) (P : Int → Bool) (h : (List.range m).all (fun n => P (n : Int)) = true) (a : Int) (h0 : 0 ≤ a) (h1 : a < m) : P a = true := by
  have := List.all_eq_true.1 h a.toNat (List.mem_range.2 (by omega))
  rw [show ((a.toNat : Nat) : Int) = a by omega] at this
  exact this
theorem of_beq_some {o : Option Bool} (h : (o == some true) = true) : o = some true := by simpa using h

theorem DigitSigns : kakugyolaw15_DigitSigns.Pure := by
  intro a _
  refine ⟨3, ?_⟩
  by_cases h : 0 ≤ a ∧ a < (10 : Nat)
  · exact of_beq_some (all_to 10 (fun a => kakugyolaw15_DigitSigns.f 3 a == some true) (by decide +kernel) a h.1 h.2)
  · have hn : kakugyolaw15_writes.f = some true := by decide +kernel
    have h1 : digit_Full.f a = some 0 := by
      unfold digit_Full.f
      by_cases g : a < 1
      · rw [if_pos g]
      · rw [if_neg g, if_pos (by omega)]
    have h2 : digit_Word.f a = some 0 := by
      unfold digit_Word.f digit_Word.val
      rw [if_neg (by omega)]
    have hj : kakugyolaw15_DigitSigns.j0 3 a 0 0 true = some true := by
      show kakugyolaw15_DigitSigns.j0 (2 + 1) a 0 0 true = _
      simp only [kakugyolaw15_DigitSigns.j0]
      rw [if_pos trivial, if_pos trivial]; rfl
    unfold kakugyolaw15_DigitSigns.f
    rw [hn, h1, h2]; simp only [Option.bind_some, if_true]
    by_cases g : a < 1
    · rw [if_pos g, hj]
    · rw [if_neg g, decide_eq_true (show a > 9 by omega), hj]

end Go.Proofs.Ytnmfkhnddnohjab.Pure
