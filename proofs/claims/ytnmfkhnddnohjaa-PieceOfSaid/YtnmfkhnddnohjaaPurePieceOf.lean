/- For every side and kind the law PieceOf answers true: the kinds 1 to 15 and the sides 0 and 1 one by one, all others together. -/
import Derived.Test.YtnmfkhnddnohjaaPax4
import Derived.OpenShut
namespace Go.Proofs.Ytnmfkhnddnohjaa.Pure
open Go.RowKit Go.Proofs.Ytnmfkhnddnohjaa.Pa Go.Proofs.YtnmfkhnddnohjaaW.PrintWords Go.Proofs.YtnmfkhnddnohjaaW.PrintLast
set_option linter.unusedVariables false
set_option linter.unusedSimpArgs false

theorem all_i8 (P : Int → Bool) (h : (List.range 256).all (fun n => P ((n : Int) - 128)) = true) (a : Int) (ha : (Lit.int .i8 a).wf = true) : P a = true := by
  have hb := bounds_i8 ha
  have := List.all_eq_true.1 h (a + 128).toNat (List.mem_range.2 (by omega))
  rw [show (((a + 128).toNat : Nat) : Int) - 128 = a by omega] at this
  exact this
theorem all_to (m : Nat) (P : Int → Bool) (h : (List.range m).all (fun n => P (n : Int)) = true) (a : Int) (h0 : 0 ≤ a) (h1 : a < m) : P a = true := by
  have := List.all_eq_true.1 h a.toNat (List.mem_range.2 (by omega))
  rw [show ((a.toNat : Nat) : Int) = a by omega] at this
  exact this
theorem of_beq_some {o : Option Bool} (h : (o == some true) = true) : o = some true := by simpa using h

theorem raw_ref_out (k : Nat) (a : Int) (h : a < 1 ∨ 15 < a) : kakugyoref02_Raw.f (k + 1) a = some 0 := by
  unfold kakugyoref02_Raw.f
  by_cases h1 : a < 1
  · rw [if_pos h1]; rfl
  · rw [if_neg h1, if_pos (by omega)]; rfl
theorem of_out (s a : Int) (h : (s ≠ 0 ∧ s ≠ 1) ∨ a < 1 ∨ 15 < a) : piece_Of.f s a = some 0 := by
  unfold piece_Of.f
  by_cases h0 : s = 0
  · rw [if_pos h0]
    by_cases h1 : a < 1
    · rw [if_pos h1]
    · rw [if_neg h1, if_pos (by omega)]
  · rw [if_neg h0]
    by_cases h2 : s = 1
    · rw [if_pos h2]
      by_cases h1 : a < 1
      · rw [if_pos h1]
      · rw [if_neg h1, if_pos (by omega)]
    · rw [if_neg h2]
theorem j1_out (a : Int) (h : a < 1 ∨ 15 < a) : kakugyolaw02_PieceOf.j1 10 a = some true := by
  have h1 : piece_Raw.f a = some 0 := by
    unfold piece_Raw.f
    rw [of_out 0 a (.inr h)]; rfl
  have h3 : piece_Up.f a = some 0 := by
    unfold piece_Up.f
    rw [if_neg (by omega), if_neg (by omega), if_neg (by omega), if_neg (by omega), if_neg (by omega), if_neg (by omega)]
  have h4 : kakugyoref02_Up.f a = some 0 := by
    unfold kakugyoref02_Up.f
    by_cases g : a ≥ 1
    · rw [if_pos g, if_neg (by omega)]
    · rw [if_neg g]
  have h5 : piece_Total.f 9 a = some 0 := by
    unfold piece_Total.f
    rw [if_neg (by omega), if_neg (by omega), if_neg (by omega), if_neg (by omega), show (a == 5) = false from beq_eq_false_iff_ne.2 (by omega)]
    show piece_Total.j0 (8 + 1) a false = _
    simp only [piece_Total.j0]
    rw [if_neg (by decide), if_neg (by omega), if_neg (by omega), if_neg (by omega)]
  have h6 : kakugyoref02_Total.f a = some 0 := by
    unfold kakugyoref02_Total.f
    by_cases g : a < 1
    · simp [g]
    · simp [g, show a > 8 by omega]
  show ((piece_Raw.f a).bind fun t => ((kakugyoref02_Raw.f 9 a).bind fun t' => (if t = t' then ((piece_Up.f a).bind fun t1 => ((kakugyoref02_Up.f a).bind fun t2 => (if t1 = t2 then ((piece_Total.f 9 a).bind fun t3 => ((kakugyoref02_Total.f a).bind fun t4 => (some (t3 == t4)))) else (some false)))) else (some false)))) = _
  rw [h1, raw_ref_out 8 a h, h3, h4, h5, h6]; rfl
theorem j1_all (a : Int) : kakugyolaw02_PieceOf.j1 10 a = some true := by
  by_cases h : 0 ≤ a ∧ a < (16 : Nat)
  · exact of_beq_some (all_to 16 (fun a => kakugyolaw02_PieceOf.j1 10 a == some true) (by decide +kernel) a h.1 h.2)
  · exact j1_out a (by omega)
theorem PieceOf : kakugyolaw02_PieceOf.Pure := by
  intro s a _ _
  refine ⟨11, ?_⟩
  have hn : kakugyolaw02_names.f 11 = some true := by decide +kernel
  have hj : kakugyolaw02_PieceOf.j0 11 s a 0 true = some true := j1_all a
  by_cases hs : s = 0 ∨ s = 1
  · by_cases h : 0 ≤ a ∧ a < (16 : Nat)
    · rcases hs with rfl | rfl
      · exact of_beq_some (all_to 16 (fun a => kakugyolaw02_PieceOf.f 11 0 a == some true) (by decide +kernel) a h.1 h.2)
      · exact of_beq_some (all_to 16 (fun a => kakugyolaw02_PieceOf.f 11 1 a == some true) (by decide +kernel) a h.1 h.2)
    · unfold kakugyolaw02_PieceOf.f
      rw [hn, of_out s a (.inr (by omega))]; simp only [Option.bind_some, if_true]
      rw [raw_ref_out 10 a (by omega)]; simp only [Option.bind_some]
      rw [if_neg (by omega), if_neg (by omega)]
      exact hj
  · unfold kakugyolaw02_PieceOf.f
    rw [hn, of_out s a (.inl (by omega))]; simp only [Option.bind_some, if_true]
    by_cases h1 : s < 0
    · rw [if_pos h1, hj]
    · rw [if_neg h1, if_pos (by omega), hj]

end Go.Proofs.Ytnmfkhnddnohjaa.Pure
