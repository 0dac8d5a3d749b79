/- For all numbers the law SetSquares answers true: the 81 squares one by one; of others there is none. -/
import Derived.Test.YtmoeodcmfjnihaaDoorPax5
import Derived.Test.YtmoeodcmfjnihaaDoorPax3
import Derived.Test.YtmoeodcmfjnihaaDoorPax2
import Derived.OpenShut
namespace Go.Proofs.YtmoeodcmfjnihaaDoor.Pure
open Go.RowKit Go.Proofs.YtmoeodcmfjnihaaDoor.Pa Go.Proofs.YtmoeodcmfjnihaaDoorW.PrintWords Go.Proofs.YtmoeodcmfjnihaaDoorW.PrintLast Go.Proofs.YtmoeodcmfjnihaaDoorW.PrintMore
set_option linter.unusedVariables false
set_option linter.unusedSimpArgs false

theorem all_i8 (P : Int → Bool) (h : (List.range 256).all (fun n => P ((n : Int) - 128)) = true) (a : Int) (ha : (Lit.int .i8 a).wf = true) : P a = true := by
  have hb := bounds_i8 ha
  have := List.all_eq_true.1 h (a + 128).toNat (List.mem_range.2 (by omega))
  rw [show (((a + 128).toNat : Nat) : Int) - 128 = a by omega] at this
  exact this
theorem all_to (m : Nat) (P : Int → Bool) (h : (List.range m).all (fun n => P (n : Int)) = true) (a : Int) (h0 : 0 ≤ a) (h1 : a < m) : P a = true := by
  have := List.all_eq_true.1 h a.toNat (List.mem_range.2 (by omega))
  rw [show ((a.toNat : Nat) : Int) = a by omega] at this
  exact this
theorem of_beq_some {o : Option Bool} (h : (o == some true) = true) : o = some true := by simpa using h

def squaresOk (i : Int) : Bool := kakugyolaw01_SetSquares.f 60 (i / 9) (i % 9) == some true
theorem sq_no (a b : Int) (h : (a < 0 ∨ 8 < a) ∨ (b < 0 ∨ 8 < b)) : set_Square.f a b = some (-1) := by
  unfold set_Square.f
  repeat' split
  all_goals first | rfl | omega
theorem SetSquares : kakugyolaw01_SetSquares.Pure := by
  intro a b _ _
  refine ⟨60, ?_⟩
  by_cases h : (0 ≤ a ∧ a ≤ 8) ∧ (0 ≤ b ∧ b ≤ 8)
  · have := of_beq_some (all_to 81 squaresOk (by decide +kernel) (9 * a + b) (by omega) (by omega))
    rw [show (9 * a + b) / 9 = a by omega, show (9 * a + b) % 9 = b by omega] at this
    exact this
  · have hn : kakugyolaw01_holds.f 60 = some true := by decide +kernel
    unfold kakugyolaw01_SetSquares.f
    rw [hn, Option.bind_some, if_pos rfl, sq_no a b (by omega), Option.bind_some]
    have hj : kakugyolaw01_SetSquares.j0 60 a b (-1) true = some true := by
      simp only [kakugyolaw01_SetSquares.j0]
      rfl
    repeat' split
    · exact hj
    · exact hj
    · exact hj
    · rw [show decide (b > 8) = true from decide_eq_true (by omega)]
      exact hj

end Go.Proofs.YtmoeodcmfjnihaaDoor.Pure
