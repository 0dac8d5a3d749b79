/- For all numbers the law ValueKinds answers true: what the sixteen kinds and the 81 squares count, one by one; all others count nothing. -/
import Derived.Test.YtmoeodcmfjnihabPax5
import Derived.Test.YtmoeodcmfjnihabPax1
import Derived.OpenShut
namespace Go.Proofs.Ytmoeodcmfjnihab.Pure
open Go.RowKit Go.Proofs.Ytmoeodcmfjnihab.Pa Go.Proofs.YtmoeodcmfjnihabW.PrintWords Go.Proofs.YtmoeodcmfjnihabW.PrintLast Go.Proofs.YtmoeodcmfjnihabW.PrintMore
set_option linter.unusedVariables false
set_option linter.unusedSimpArgs false

theorem all_i8 (P : Int → Bool) (h : (List.range 256).all (fun n => P ((n : Int) - 128)) = true) (a : Int) (ha : (Lit.int .i8 a).wf = true) : P a = true := by
  have hb := bounds_i8 ha
  have := List.all_eq_true.1 h (a + 128).toNat (List.mem_range.2 (by omega))
  rw [show (((a + 128).toNat : Nat) : Int) - 128 = a by omega] at this
  exact this
theorem all_to (m : Nat) (P : Int → Bool) (h : (List.range m).all (fun n => P (n : Int)) = true) (a : Int) (h0 : 0 ≤ a) (h1 : a < m) : P a = true := by
  have := List.all_eq_true.1 h a.toNat (List.mem_range.2 (by omega))
  rw [show ((a.toNat : Nat) : Int) = a by omega] at this
  exact this
theorem of_beq_some {o : Option Bool} (h : (o == some true) = true) : o = some true := by simpa using h

open kakugyolaw17_ValueKinds
def W (a : Int) : Int := rd [0, 100, 300, 350, 500, 550, 850, 950, 0, 600, 550, 550, 550, 0, 1100, 1250] a
def H (x : Int) : Int := wrap64 (x + (wrap64 (Int.tdiv x 10)))
def kindOk (a : Int) : Bool := decide (value_Piece.f 25 a = some (W a)) && decide (value_Hand.f 25 a = some (if 1 ≤ a ∧ a ≤ 7 then H (W a) else 0))
def squareOk (q : Int) : Bool := decide (kakugyoref17_Square.f q = value_Square.f q) && (value_Square.f q).isSome
theorem piece_out (a : Int) (h : a < 0 ∨ 15 < a) (k : Nat) : value_Piece.f (k + 1) a = some 0 := by
  unfold value_Piece.f
  rw [if_neg (by omega), if_neg (by omega), if_neg (by omega), if_neg (by omega), if_neg (by omega), if_neg (by omega), if_neg (by omega)]
  have : (a == 10) = false := beq_eq_false_iff_ne.2 (by omega)
  rw [this]
  simp only [value_Piece.j0]
  rw [if_neg (by decide), if_neg (by omega), if_neg (by omega), if_neg (by omega), if_neg (by omega), if_neg (by omega)]
theorem hand_out (a : Int) (h : a < 1 ∨ 7 < a) (k : Nat) : value_Hand.f (k + 1) a = some 0 := by
  unfold value_Hand.f
  by_cases h1 : a < 1
  · rw [if_pos h1]
    rfl
  · rw [if_neg h1, decide_eq_true (show a ≥ 8 by omega)]
    rfl
theorem square_out (q : Int) (h : q < 0 ∨ 80 < q) : value_Square.f q = some 0 := by
  unfold value_Square.f
  by_cases h1 : q < 0
  · rw [if_pos h1]
  · rw [if_neg h1, if_pos (by omega)]
theorem j4_in (a q x5 x6 : Int) (hp : value_Piece.f 25 a = some x5) (hh : value_Hand.f 25 a = some x6) (hq : 0 ≤ q ∧ q ≤ 80) : j4 26 a q x5 x6 0 true = some true := by
  have hs := all_to 81 squareOk (by decide +kernel) q hq.1 (by omega)
  unfold squareOk at hs
  rw [Bool.and_eq_true, decide_eq_true_eq] at hs
  obtain ⟨v, hv⟩ := Option.isSome_iff_exists.1 hs.2
  simp only [j4]
  rw [if_pos trivial, hs.1, hv, Option.bind_some, hp, Option.bind_some, if_pos rfl, hh, Option.bind_some, if_pos rfl, Option.bind_some]
  simp
theorem j4_out (a q x5 x6 : Int) (hp : value_Piece.f 25 a = some x5) (hh : value_Hand.f 25 a = some x6) (hq : q < 0 ∨ 80 < q) : j4 26 a q x5 x6 0 false = some true := by
  simp only [j4]
  rw [if_neg (by decide), hp, Option.bind_some, if_pos rfl, hh, Option.bind_some, if_pos rfl, square_out q hq, Option.bind_some]
  rfl
theorem j3_is (a q x5 x6 : Int) (hp : value_Piece.f 25 a = some x5) (hh : value_Hand.f 25 a = some x6) : j3 27 a q x5 x6 0 = some true := by
  simp only [j3]
  by_cases h0 : q ≥ 0
  · rw [if_pos h0]
    by_cases h1 : q ≤ 80
    · rw [decide_eq_true h1]
      exact j4_in a q x5 x6 hp hh ⟨h0, h1⟩
    · rw [decide_eq_false h1]
      exact j4_out a q x5 x6 hp hh (by omega)
  · rw [if_neg h0]
    exact j4_out a q x5 x6 hp hh (by omega)
theorem j1_is (a q x5 : Int) (hp : value_Piece.f 25 a = some x5) (hh : value_Hand.f 25 a = some (if 1 ≤ a ∧ a ≤ 7 then H x5 else 0)) : j1 29 a q x5 0 0 = some true := by
  simp only [j1]
  by_cases h0 : a ≥ 1
  · rw [if_pos h0]
    by_cases h1 : a ≤ 7
    · rw [decide_eq_true h1]
      simp only [j2]
      rw [if_pos trivial]
      rw [if_pos ⟨h0, h1⟩] at hh
      exact j3_is a q x5 _ hp hh
    · rw [decide_eq_false h1]
      simp only [j2]
      rw [if_neg (by decide)]
      rw [if_neg (by omega)] at hh
      exact j3_is a q x5 0 hp hh
  · rw [if_neg h0]
    simp only [j2]
    rw [if_neg (by decide)]
    rw [if_neg (by omega)] at hh
    exact j3_is a q x5 0 hp hh
theorem ValueKinds : kakugyolaw17_ValueKinds.Pure := by
  intro a q _ _
  refine ⟨30, ?_⟩
  have hn : kakugyolaw17_values.f = some true := rfl
  unfold kakugyolaw17_ValueKinds.f
  rw [hn, Option.bind_some, if_pos rfl]
  by_cases h : 0 ≤ a ∧ a ≤ 15
  · rw [if_pos h.1, decide_eq_true h.2]
    have hk := all_to 16 kindOk (by decide +kernel) a h.1 (by omega)
    unfold kindOk at hk
    rw [Bool.and_eq_true, decide_eq_true_eq, decide_eq_true_eq] at hk
    simp only [j0]
    rw [if_pos trivial]
    unfold kakugyoref17_Pieces.f
    rw [Option.bind_some, if_pos h.1, if_pos (by show a < 16; omega)]
    exact j1_is a q (W a) hk.1 hk.2
  · have hj : j0 30 a q 0 0 0 false = some true := by
      simp only [j0]
      rw [if_neg (by decide)]
      exact j1_is a q 0 (piece_out a (by omega) 24) (by rw [hand_out a (by omega) 24, if_neg (by omega)])
    by_cases h0 : a ≥ 0
    · rw [if_pos h0, decide_eq_false (by omega)]
      exact hj
    · rw [if_neg h0]
      exact hj

end Go.Proofs.Ytmoeodcmfjnihab.Pure
