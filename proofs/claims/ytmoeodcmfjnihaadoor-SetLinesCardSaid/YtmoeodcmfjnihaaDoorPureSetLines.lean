/- For every number the law SetLines answers true: nine files and nine ranks of nine squares each, all together all squares; of other numbers there is none. -/
import Derived.Test.YtmoeodcmfjnihaaDoorPax4
import Derived.Test.YtmoeodcmfjnihaaDoorPax3
import Derived.Test.YtmoeodcmfjnihaaDoorPax2
import Derived.Laws.Bits64b
import Derived.OpenShut
namespace Go.Proofs.YtmoeodcmfjnihaaDoor.Pure
open Go.RowKit Go.Proofs.YtmoeodcmfjnihaaDoor.Pa Go.Proofs.YtmoeodcmfjnihaaDoorW.PrintWords Go.Proofs.YtmoeodcmfjnihaaDoorW.PrintLast Go.Proofs.YtmoeodcmfjnihaaDoorW.PrintMore
set_option linter.unusedVariables false
set_option linter.unusedSimpArgs false

theorem all_i8 (P : Int → Bool) (h : (List.range 256).all (fun n => P ((n : Int) - 128)) = true) (a : Int) (ha : (Lit.int .i8 a).wf = true) : P a = true := by
  have hb := bounds_i8 ha
  have := List.all_eq_true.1 h (a + 128).toNat (List.mem_range.2 (by omega))
  rw [show (((a + 128).toNat : Nat) : Int) - 128 = a by omega] at this
  exact this
theorem all_to (m : Nat) (P : Int → Bool) (h : (List.range m).all (fun n => P (n : Int)) = true) (a : Int) (h0 : 0 ≤ a) (h1 : a < m) : P a = true := by
  have := List.all_eq_true.1 h a.toNat (List.mem_range.2 (by omega))
  rw [show ((a.toNat : Nat) : Int) = a by omega] at this
  exact this
theorem of_beq_some {o : Option Bool} (h : (o == some true) = true) : o = some true := by simpa using h

def lo (q : Nat) : Nat := if q < 63 then 2 ^ q else 0
def hi (q : Nat) : Nat := if q < 63 then 0 else 2 ^ (q - 63)
def add (s : Nat × Nat) (q : Int) : Nat × Nat := if 0 ≤ q ∧ q ≤ 80 then (s.1 ||| lo q.toNat, s.2 ||| hi q.toNat) else s
def has (s : Nat × Nat) (q : Nat) : Bool := if q < 63 then s.1.testBit q else s.2.testBit (q - 63)
def Good (s : Nat × Nat) : Prop := s.1 < 2 ^ 63 ∧ s.2 < 2 ^ 18
theorem good0 : Good (0, 0) := by unfold Good; decide
theorem lo_lt (q : Nat) : lo q < 2 ^ 63 := by
  unfold lo; split
  · exact Nat.pow_lt_pow_right (by omega) (by assumption)
  · decide
theorem hi_lt (q : Nat) (h : q ≤ 80) : hi q < 2 ^ 18 := by
  unfold hi; split
  · decide
  · exact Nat.pow_lt_pow_right (by omega) (by omega)
theorem good_add (s : Nat × Nat) (q : Int) (h : Good s) : Good (add s q) := by
  unfold add; split
  · exact ⟨Nat.or_lt_two_pow h.1 (lo_lt _), Nat.or_lt_two_pow h.2 (hi_lt _ (by omega))⟩
  · exact h
theorem shl_one (q : Nat) (h : q < 64) : shl .u64 1 (q : Int) = ((2 ^ q : Nat) : Int) := by
  have hp : ∀ q, q < 64 → (IntKind.u64.wrap (1 * 2 ^ min ((q : Nat) : Int).toNat IntKind.u64.bits)) = ((2 ^ q : Nat) : Int) := by decide +kernel
  exact hp q h
theorem bit_in (k q : Nat) (h : q ≤ 80) : set_bit.f (k + 1) (q : Int) = some (((lo q : Nat) : Int), ((hi q : Nat) : Int)) := by
  unfold set_bit.f
  rw [if_neg (by omega), show (decide ((q : Int) ≥ 81)) = false from decide_eq_false (by omega)]
  simp only [set_bit.j0]
  rw [if_neg (by decide)]
  unfold lo hi
  by_cases h63 : q < 63
  · rw [if_pos (by omega), if_pos (by omega), shl_one q (by omega), if_pos h63, if_pos h63]; rfl
  · have e : wrap64 ((q : Int) - 63) = ((q - 63 : Nat) : Int) := by unfold wrap64; omega
    rw [if_neg (by omega), e, if_pos (by omega), shl_one (q - 63) (by omega), if_neg h63, if_neg h63]; rfl
theorem bit_no (k : Nat) (q : Int) (h : q < 0 ∨ 80 < q) : set_bit.f (k + 1) q = some (0, 0) := by
  unfold set_bit.f
  have hj : set_bit.j0 (k + 1) q true = some (0, 0) := by simp only [set_bit.j0]; rw [if_pos trivial]
  by_cases a : q < 0
  · rw [if_pos a, hj]
  · rw [if_neg a, show (decide (q ≥ 81)) = true from decide_eq_true (by omega), hj]
theorem p64 {n : Nat} (h : n < 2 ^ 63) : n < 18446744073709551616 := Nat.lt_trans h (by decide)
theorem q64 {n : Nat} (h : n < 2 ^ 18) : n < 18446744073709551616 := Nat.lt_trans h (by decide)
theorem with_is (k : Nat) (s : Nat × Nat) (q : Int) (h : Good s) : set_Set_With.f (k + 1) (s.1 : Int) (s.2 : Int) q = some (((add s q).1 : Int), ((add s q).2 : Int)) := by
  unfold set_Set_With.f
  by_cases hq : 0 ≤ q ∧ q ≤ 80
  · obtain ⟨n, rfl⟩ : ∃ n : Nat, q = n := ⟨q.toNat, by omega⟩
    rw [bit_in k n (by omega)]
    simp only [Option.bind_some, set_Set_Or.f]
    unfold add
    rw [if_pos hq, bits_or_u64_nat _ _ (p64 h.1) (p64 (lo_lt n)), bits_or_u64_nat _ _ (q64 h.2) (q64 (hi_lt n (by omega)))]
    rfl
  · rw [bit_no k q (by omega)]
    simp only [Option.bind_some, set_Set_Or.f]
    unfold add
    rw [if_neg hq, show (0 : Int) = ((0 : Nat) : Int) from rfl, bits_or_u64_nat _ _ (p64 h.1) (by decide), bits_or_u64_nat _ _ (q64 h.2) (by decide), Nat.or_zero, Nat.or_zero]
theorem and_pow (a q : Nat) : (a &&& 2 ^ q == 0) = !a.testBit q := by
  cases h : a.testBit q
  · have : a &&& 2 ^ q = 0 := Nat.eq_of_testBit_eq fun i => by
      rw [Nat.testBit_and, Nat.testBit_two_pow, Nat.zero_testBit]
      by_cases e : q = i
      · rw [← e, h]; rfl
      · rw [decide_eq_false e, Bool.and_false]
    rw [this]; rfl
  · rw [Bool.not_true, beq_eq_false_iff_ne]
    intro h0
    have := congrArg (fun n => Nat.testBit n q) h0
    simp [Nat.testBit_and, Nat.testBit_two_pow_self, h] at this
theorem has_is (k : Nat) (s : Nat × Nat) (q : Nat) (h : Good s) (hq : q ≤ 80) : set_Set_Has.f (k + 1) (s.1 : Int) (s.2 : Int) (q : Int) = some (has s q) := by
  unfold set_Set_Has.f
  rw [bit_in k q hq]
  simp only [Option.bind_some, set_Set_And.f, set_Set_Empty.f]
  rw [bits_and_u64_nat _ _ (p64 h.1) (p64 (lo_lt q)), bits_and_u64_nat _ _ (q64 h.2) (q64 (hi_lt q hq))]
  unfold has lo hi
  have c : ∀ n : Nat, ((n : Int) == 0) = (n == 0) := fun n => by rw [Bool.eq_iff_iff, beq_iff_eq, beq_iff_eq]; omega
  by_cases h63 : q < 63
  · rw [if_pos h63, if_pos h63, if_pos h63, Nat.and_zero, c, and_pow]
    simp
  · rw [if_neg h63, if_neg h63, if_neg h63, Nat.and_zero, c, c, and_pow]
    simp
theorem has_no (k : Nat) (s : Nat × Nat) (q : Int) (h : Good s) (hq : q < 0 ∨ 80 < q) : set_Set_Has.f (k + 1) (s.1 : Int) (s.2 : Int) q = some false := by
  unfold set_Set_Has.f
  rw [bit_no k q hq]
  simp only [Option.bind_some, set_Set_And.f, set_Set_Empty.f]
  rw [show (0 : Int) = ((0 : Nat) : Int) from rfl, bits_and_u64_nat _ _ (p64 h.1) (by decide), bits_and_u64_nat _ _ (q64 h.2) (by decide), Nat.and_zero, Nat.and_zero]
  rfl

def linesOk (n : Int) : Bool := kakugyolaw01_SetLines.f 60 n == some true
theorem sq_no (a b : Int) (h : (a < 0 ∨ 8 < a) ∨ (b < 0 ∨ 8 < b)) : set_Square.f a b = some (-1) := by
  unfold set_Square.f
  repeat' split
  all_goals first | rfl | omega
theorem with_no (k : Nat) : set_Set_With.f (k + 1) 0 0 (-1) = some (0, 0) := with_is k (0, 0) (-1) good0
theorem file_no (n : Int) (h : n < 0 ∨ 8 < n) : ∀ (d k : Nat) (i : Int), 0 ≤ i → i ≤ 9 → (9 : Int) - i = d → d + 2 ≤ k → set_InFile.l0 k n i 0 0 = some (0, 0) := by
  intro d
  induction d with
  | zero =>
    intro k i h1 h2 h3 hk
    obtain ⟨k, rfl⟩ : ∃ m, k = m + 1 := ⟨k - 1, by omega⟩
    simp only [set_InFile.l0]
    rw [if_neg (by omega)]
  | succ d ih =>
    intro k i h1 h2 h3 hk
    obtain ⟨k, rfl⟩ : ∃ m, k = m + 2 := ⟨k - 2, by omega⟩
    simp only [set_InFile.l0]
    rw [if_pos (by omega), sq_no _ _ (.inl h), Option.bind_some, with_no, Option.bind_some, show wrap64 (i + 1) = i + 1 by unfold wrap64; omega]
    exact ih (k + 1) (i + 1) (by omega) (by omega) (by omega) (by omega)
theorem rank_no (n : Int) (h : n < 0 ∨ 8 < n) : ∀ (d k : Nat) (i : Int), 0 ≤ i → i ≤ 9 → (9 : Int) - i = d → d + 2 ≤ k → set_InRank.l0 k n i 0 0 = some (0, 0) := by
  intro d
  induction d with
  | zero =>
    intro k i h1 h2 h3 hk
    obtain ⟨k, rfl⟩ : ∃ m, k = m + 1 := ⟨k - 1, by omega⟩
    simp only [set_InRank.l0]
    rw [if_neg (by omega)]
  | succ d ih =>
    intro k i h1 h2 h3 hk
    obtain ⟨k, rfl⟩ : ∃ m, k = m + 2 := ⟨k - 2, by omega⟩
    simp only [set_InRank.l0]
    rw [if_pos (by omega), sq_no _ _ (.inr h), Option.bind_some, with_no, Option.bind_some, show wrap64 (i + 1) = i + 1 by unfold wrap64; omega]
    exact ih (k + 1) (i + 1) (by omega) (by omega) (by omega) (by omega)
theorem SetLines : kakugyolaw01_SetLines.Pure := by
  intro n _
  refine ⟨60, ?_⟩
  by_cases h : 0 ≤ n ∧ n ≤ 8
  · exact of_beq_some (all_to 9 linesOk (by decide +kernel) n h.1 (by omega))
  · have hn : kakugyolaw01_holds.f 60 = some true := by decide +kernel
    unfold kakugyolaw01_SetLines.f
    rw [hn, Option.bind_some, if_pos rfl]
    have hj : kakugyolaw01_SetLines.j0 60 n true = some true := by
      simp only [kakugyolaw01_SetLines.j0]
      have e1 : set_InFile.f 59 n = some (0, 0) := file_no n (by omega) 9 59 0 (by omega) (by omega) (by omega) (by omega)
      have e2 : set_InRank.f 59 n = some (0, 0) := rank_no n (by omega) 9 59 0 (by omega) (by omega) (by omega) (by omega)
      rw [if_pos trivial, e1, Option.bind_some, e2]
      decide +kernel
    by_cases h1 : n < 0
    · rw [if_pos h1]; exact hj
    · rw [if_neg h1, show decide (n > 8) = true from decide_eq_true (by omega)]; exact hj

end Go.Proofs.YtmoeodcmfjnihaaDoor.Pure
