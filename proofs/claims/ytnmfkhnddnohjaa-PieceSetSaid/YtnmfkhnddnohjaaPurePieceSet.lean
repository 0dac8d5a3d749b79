/- For every int the law PieceSet answers true: the kinds 1 to 8 one by one, all others together. -/
import Derived.Test.YtnmfkhnddnohjaaPax4
import Derived.OpenShut
namespace Go.Proofs.Ytnmfkhnddnohjaa.Pure
open Go.RowKit Go.Proofs.Ytnmfkhnddnohjaa.Pa Go.Proofs.YtnmfkhnddnohjaaW.PrintWords Go.Proofs.YtnmfkhnddnohjaaW.PrintLast
set_option linter.unusedVariables false
set_option linter.unusedSimpArgs false

theorem all_i8 (P : Int → Bool) (h : (List.range 256).all (fun n => P ((n : Int) - 128)) = true) (a : Int) (ha : (Lit.int .i8 a).wf = true) : P a = true := by
  have hb := bounds_i8 ha
  have := List.all_eq_true.1 h (a + 128).toNat (List.mem_range.2 (by omega))
  rw [show (((a + 128).toNat : Nat) : Int) - 128 = a by omega] at this
  exact this
theorem all_to (m : Nat) (P : Int → Bool) (h : (List.range m).all (fun n => P (n : Int)) = true) (a : Int) (h0 : 0 ≤ a) (h1 : a < m) : P a = true := by
  have := List.all_eq_true.1 h a.toNat (List.mem_range.2 (by omega))
  rw [show ((a.toNat : Nat) : Int) = a by omega] at this
  exact this
theorem of_beq_some {o : Option Bool} (h : (o == some true) = true) : o = some true := by simpa using h

theorem PieceSet : kakugyolaw02_PieceSet.Pure := by
  intro a0 _
  refine ⟨40, ?_⟩
  by_cases h : 0 ≤ a0 ∧ a0 < (9 : Nat)
  · exact of_beq_some (all_to 9 (fun a => kakugyolaw02_PieceSet.f 40 a == some true) (by decide +kernel) a0 h.1 h.2)
  · have hn : kakugyolaw02_names.f 40 = some true := by decide +kernel
    have hl : kakugyolaw02_PieceSet.l0 40 a0 0 1 = if a0 < 1 then (kakugyolaw02_PieceSet.j1 31 a0 40 true) else (kakugyolaw02_PieceSet.j1 31 a0 40 (decide (a0 > 8))) := by kernel_rfl
    have hu : piece_Up.f a0 = some 0 := by
      unfold piece_Up.f
      rw [if_neg (by omega), if_neg (by omega), if_neg (by omega), if_neg (by omega), if_neg (by omega), if_neg (by omega)]
    have hj : kakugyolaw02_PieceSet.j1 31 a0 40 true = some true := by
      show kakugyolaw02_PieceSet.j1 (30 + 1) a0 40 true = _
      simp only [kakugyolaw02_PieceSet.j1]
      rw [if_pos trivial, if_pos trivial, hu]; rfl
    unfold kakugyolaw02_PieceSet.f
    rw [hn]; simp only [Option.bind_some, if_true]
    rw [hl]
    by_cases h1 : a0 < 1
    · rw [if_pos h1, hj]
    · rw [if_neg h1, decide_eq_true (show a0 > 8 by omega), hj]

end Go.Proofs.Ytnmfkhnddnohjaa.Pure
