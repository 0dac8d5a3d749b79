/- For every rune and every kind the law PieceSigns answers true: the runes that are signs, and the kinds 1 to 15, one by one, all others together. -/
import Derived.Test.YtnmfkhnddnohjaaPax3
import Derived.OpenShut
namespace Go.Proofs.Ytnmfkhnddnohjaa.Pure
open Go.RowKit Go.Proofs.Ytnmfkhnddnohjaa.Pa Go.Proofs.YtnmfkhnddnohjaaW.PrintWords Go.Proofs.YtnmfkhnddnohjaaW.PrintLast
set_option linter.unusedVariables false
set_option linter.unusedSimpArgs false

theorem all_i8 (P : Int → Bool) (h : (List.range 256).all (fun n => P ((n : Int) - 128)) = true) (a : Int) (ha : (Lit.int .i8 a).wf = true) : P a = true := by
  have hb := bounds_i8 ha
  have := List.all_eq_true.1 h (a + 128).toNat (List.mem_range.2 (by omega))
  rw [show (((a + 128).toNat : Nat) : Int) - 128 = a by omega] at this
  exact this
theorem all_to (m : Nat) (P : Int → Bool) (h : (List.range m).all (fun n => P (n : Int)) = true) (a : Int) (h0 : 0 ≤ a) (h1 : a < m) : P a = true := by
  have := List.all_eq_true.1 h a.toNat (List.mem_range.2 (by omega))
  rw [show ((a.toNat : Nat) : Int) = a by omega] at this
  exact this
theorem of_beq_some {o : Option Bool} (h : (o == some true) = true) : o = some true := by simpa using h

theorem raw_ref_out (k : Nat) (a : Int) (h : a < 1 ∨ 15 < a) : kakugyoref02_Raw.f (k + 1) a = some 0 := by
  unfold kakugyoref02_Raw.f
  by_cases h1 : a < 1
  · rw [if_pos h1]; rfl
  · rw [if_neg h1, if_pos (by omega)]; rfl
theorem sign_out (a : Int) (h : a < 1 ∨ 15 < a) : piece_Sign.f a = some 0 := by
  unfold piece_Sign.f piece_Sign.val
  rw [if_neg (by omega)]
def signs : List Int := [27497, 39321, 26690, 37504, 37329, 35282, 39131, 29577, 12392, 26447, 22317, 20840, 39340, 40845]
theorem sign_in : (List.range 15).all (fun n => (piece_Sign.val ((n : Int) + 1) == 0 || signs.contains (piece_Sign.val ((n : Int) + 1)))) = true := by decide +kernel
theorem l0_none (x : Int) (h : signs.contains x = false) (h0 : x ≠ 0) : ∀ (d k : Nat) (i : Int), 1 ≤ i → i ≤ 16 → (16 : Int) - i = d → d < k → piece_FromSign.l0 k x i = some 0 := by
  intro d
  induction d with
  | zero =>
    intro k i h1 h2 h3 hk
    obtain ⟨k, rfl⟩ : ∃ m, k = m + 1 := ⟨k - 1, by omega⟩
    simp only [piece_FromSign.l0]
    rw [if_neg (by omega)]
  | succ d ih =>
    intro k i h1 h2 h3 hk
    obtain ⟨k, rfl⟩ : ∃ m, k = m + 1 := ⟨k - 1, by omega⟩
    simp only [piece_FromSign.l0]
    rw [if_pos (by omega)]
    have hs := List.all_eq_true.1 sign_in (i - 1).toNat (List.mem_range.2 (by omega))
    rw [show ((((i - 1).toNat : Nat) : Int) + 1) = i by omega] at hs
    show ((some (piece_Sign.val i)).bind _) = _
    simp only [Option.bind_some]
    rw [if_neg ?_, show wrap64 (i + 1) = i + 1 by unfold wrap64; omega]
    · exact ih k (i + 1) (by omega) (by omega) (by omega) (by omega)
    · intro e
      rw [e] at hs
      rw [h] at hs
      simp at hs
      exact h0 hs
theorem from_none (x : Int) (h : signs.contains x = false) (h0 : x ≠ 0) (h1 : x ≠ 29579) (h2 : x ≠ 31452) : piece_FromSign.f 20 x = some 0 := by
  unfold piece_FromSign.f
  rw [if_neg h1, if_neg h2]
  by_cases h3 : x = 12539
  · rw [if_pos h3]
  · rw [if_neg h3]
    exact l0_none x h h0 15 20 1 (by omega) (by omega) (by omega) (by omega)
theorem not_sign (x : Int) (h : signs.contains x = false) : kakugyolaw02_notSign.f x = some true := by
  unfold kakugyolaw02_notSign.f kakugyolaw02_notSign.val
  congr 1
  rw [List.all_eq_true]
  intro q hq
  rw [bne_iff_ne]
  intro e
  have hq' := List.mem_range.1 hq
  have : signs.contains x = true := by
    have g : (List.range 14).all (fun q => signs.contains ((kakugyolaw02_notSign.tab.getD q 0 : Nat) : Int)) = true := by decide +kernel
    rw [e]; exact List.all_eq_true.1 g q hq
  rw [h] at this; cases this
theorem j0_false (x : Int) : kakugyolaw02_PieceSigns.j0 21 x false = some true := by
  by_cases h1 : x = 29579
  · rw [h1]; decide +kernel
  by_cases h2 : x = 31452
  · rw [h2]; decide +kernel
  by_cases h0 : x = 0
  · rw [h0]; decide +kernel
  cases h : signs.contains x
  · show kakugyolaw02_PieceSigns.j0 (20 + 1) x false = _
    simp only [kakugyolaw02_PieceSigns.j0]
    rw [if_neg (by decide), from_none x h h0 h1 h2]
    simp only [Option.bind_some]
    rw [if_neg h1, show (x == 31452) = false from beq_eq_false_iff_ne.2 h2]
    show kakugyolaw02_PieceSigns.j1 (19 + 1) x 0 false = _
    simp only [kakugyolaw02_PieceSigns.j1]
    rw [if_neg (by decide), if_pos trivial]
    by_cases h3 : x < 19968
    · rw [if_pos h3]
    · rw [if_neg h3, not_sign x h]; rfl
  · have hx : x ∈ signs := by simpa using h
    unfold signs at hx
    simp only [List.mem_cons, List.not_mem_nil, or_false] at hx
    rcases hx with rfl | rfl | rfl | rfl | rfl | rfl | rfl | rfl | rfl | rfl | rfl | rfl | rfl | rfl <;> decide +kernel
def headOk (a : Int) : Bool := match piece_Sign.f a, kakugyoref02_Raw.f 21 a with
  | some s, some r => ((s == 0) == (r == 0)) && (s == 0 || piece_FromSign.f 21 s == some a)
  | _, _ => false
theorem PieceSigns : kakugyolaw02_PieceSigns.Pure := by
  intro x a _ _
  refine ⟨21, ?_⟩
  have hn : kakugyolaw02_names.f 21 = some true := by decide +kernel
  unfold kakugyolaw02_PieceSigns.f
  rw [hn]; simp only [Option.bind_some, if_true]
  by_cases h : 0 ≤ a ∧ a < (16 : Nat)
  · have hh := all_to 16 headOk (by decide +kernel) a h.1 h.2
    unfold headOk at hh
    cases hs : piece_Sign.f a with
    | none => rw [hs] at hh; cases hh
    | some s =>
      cases hr : kakugyoref02_Raw.f 21 a with
      | none => rw [hs, hr] at hh; cases hh
      | some r =>
        rw [hs, hr] at hh
        simp only [Bool.and_eq_true, Bool.or_eq_true, beq_iff_eq] at hh
        simp only [Option.bind_some]
        rw [if_neg (by rw [hh.1]; simp)]
        by_cases h0 : s = 0
        · rw [if_pos h0]; exact j0_false x
        · rw [if_neg h0, hh.2.resolve_left h0]
          simp only [Option.bind_some]
          rw [show (a != a) = false by simp]
          exact j0_false x
  · rw [sign_out a (by omega), raw_ref_out 20 a (by omega)]
    simp only [Option.bind_some]
    rw [if_neg (by decide), if_pos trivial]
    exact j0_false x

end Go.Proofs.Ytnmfkhnddnohjaa.Pure
