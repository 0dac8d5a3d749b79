/- For every int8 the law PieceUp answers true: all 256 numbers are asked by the kernel. -/
import Derived.Test.YtnmfkhnddnohjaaPax5
import Derived.OpenShut
namespace Go.Proofs.Ytnmfkhnddnohjaa.Pure
open Go.RowKit Go.Proofs.Ytnmfkhnddnohjaa.Pa Go.Proofs.YtnmfkhnddnohjaaW.PrintWords Go.Proofs.YtnmfkhnddnohjaaW.PrintLast
set_option linter.unusedVariables false
set_option linter.unusedSimpArgs false

theorem all_i8 (P : Int → Bool) (h : (List.range 256).all (fun n => P ((n : Int) - 128)) = true) (a : Int) (ha : (Lit.int .i8 a).wf = true) : P a = true := by
  have hb := bounds_i8 ha
  have := List.all_eq_true.1 h (a + 128).toNat (List.mem_range.2 (by omega))
  rw [show (((a + 128).toNat : Nat) : Int) - 128 = a by omega] at this
  exact this
theorem all_to (m : Nat) (P : Int → Bool) (h : (List.range m).all (fun n => P (n : Int)) = true) (a : Int) (h0 : 0 ≤ a) (h1 : a < m) : P a = true := by
  have := List.all_eq_true.1 h a.toNat (List.mem_range.2 (by omega))
  rw [show ((a.toNat : Nat) : Int) = a by omega] at this
  exact this
theorem of_beq_some {o : Option Bool} (h : (o == some true) = true) : o = some true := by simpa using h

theorem PieceUp : kakugyolaw02_PieceUp.Pure := by
  intro a0 h
  exact ⟨40, of_beq_some (all_i8 (fun a => kakugyolaw02_PieceUp.f 40 a == some true) (by decide +kernel) a0 h)⟩

end Go.Proofs.Ytnmfkhnddnohjaa.Pure
