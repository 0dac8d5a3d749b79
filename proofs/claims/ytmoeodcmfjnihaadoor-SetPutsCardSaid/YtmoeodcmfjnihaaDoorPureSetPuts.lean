/- For all lists of numbers the law SetPuts answers true: what is put and what is taken leaves just the document's row of 81 truths. -/
import Derived.Test.YtmoeodcmfjnihaaDoorPax4
import Derived.Test.YtmoeodcmfjnihaaDoorPax2
import Derived.Test.YtmoeodcmfjnihaaDoorPax3
import Derived.Laws.Bits64b
import Derived.Laws.BitsAllLaws
import Derived.OpenShut
namespace Go.Proofs.YtmoeodcmfjnihaaDoor.Pure
open Go.RowKit Go.Proofs.YtmoeodcmfjnihaaDoor.Pa Go.Proofs.YtmoeodcmfjnihaaDoorW.PrintWords Go.Proofs.YtmoeodcmfjnihaaDoorW.PrintLast Go.Proofs.YtmoeodcmfjnihaaDoorW.PrintMore
set_option linter.unusedVariables false
set_option linter.unusedSimpArgs false

theorem all_i8 (P : Int → Bool) (h : (List.range 256).all (fun n => P ((n : Int) - 128)) = true) (a : Int) (ha : (Lit.int .i8 a).wf = true) : P a = true := by
  have hb := bounds_i8 ha
  have := List.all_eq_true.1 h (a + 128).toNat (List.mem_range.2 (by omega))
  rw [show (((a + 128).toNat : Nat) : Int) - 128 = a by omega] at this
  exact this
theorem all_to (m : Nat) (P : Int → Bool) (h : (List.range m).all (fun n => P (n : Int)) = true) (a : Int) (h0 : 0 ≤ a) (h1 : a < m) : P a = true := by
  have := List.all_eq_true.1 h a.toNat (List.mem_range.2 (by omega))
  rw [show ((a.toNat : Nat) : Int) = a by omega] at this
  exact this
theorem of_beq_some {o : Option Bool} (h : (o == some true) = true) : o = some true := by simpa using h

def lo (q : Nat) : Nat := if q < 63 then 2 ^ q else 0
def hi (q : Nat) : Nat := if q < 63 then 0 else 2 ^ (q - 63)
def add (s : Nat × Nat) (q : Int) : Nat × Nat := if 0 ≤ q ∧ q ≤ 80 then (s.1 ||| lo q.toNat, s.2 ||| hi q.toNat) else s
def has (s : Nat × Nat) (q : Nat) : Bool := if q < 63 then s.1.testBit q else s.2.testBit (q - 63)
def Good (s : Nat × Nat) : Prop := s.1 < 2 ^ 63 ∧ s.2 < 2 ^ 18
theorem good0 : Good (0, 0) := by unfold Good; decide
theorem lo_lt (q : Nat) : lo q < 2 ^ 63 := by
  unfold lo; split
  · exact Nat.pow_lt_pow_right (by omega) (by assumption)
  · decide
theorem hi_lt (q : Nat) (h : q ≤ 80) : hi q < 2 ^ 18 := by
  unfold hi; split
  · decide
  · exact Nat.pow_lt_pow_right (by omega) (by omega)
theorem good_add (s : Nat × Nat) (q : Int) (h : Good s) : Good (add s q) := by
  unfold add; split
  · exact ⟨Nat.or_lt_two_pow h.1 (lo_lt _), Nat.or_lt_two_pow h.2 (hi_lt _ (by omega))⟩
  · exact h
theorem shl_one (q : Nat) (h : q < 64) : shl .u64 1 (q : Int) = ((2 ^ q : Nat) : Int) := by
  have hp : ∀ q, q < 64 → (IntKind.u64.wrap (1 * 2 ^ min ((q : Nat) : Int).toNat IntKind.u64.bits)) = ((2 ^ q : Nat) : Int) := by decide +kernel
  exact hp q h
theorem bit_in (k q : Nat) (h : q ≤ 80) : set_bit.f (k + 1) (q : Int) = some (((lo q : Nat) : Int), ((hi q : Nat) : Int)) := by
  unfold set_bit.f
  rw [if_neg (by omega), show (decide ((q : Int) ≥ 81)) = false from decide_eq_false (by omega)]
  simp only [set_bit.j0]
  rw [if_neg (by decide)]
  unfold lo hi
  by_cases h63 : q < 63
  · rw [if_pos (by omega), if_pos (by omega), shl_one q (by omega), if_pos h63, if_pos h63]; rfl
  · have e : wrap64 ((q : Int) - 63) = ((q - 63 : Nat) : Int) := by unfold wrap64; omega
    rw [if_neg (by omega), e, if_pos (by omega), shl_one (q - 63) (by omega), if_neg h63, if_neg h63]; rfl
theorem bit_no (k : Nat) (q : Int) (h : q < 0 ∨ 80 < q) : set_bit.f (k + 1) q = some (0, 0) := by
  unfold set_bit.f
  have hj : set_bit.j0 (k + 1) q true = some (0, 0) := by simp only [set_bit.j0]; rw [if_pos trivial]
  by_cases a : q < 0
  · rw [if_pos a, hj]
  · rw [if_neg a, show (decide (q ≥ 81)) = true from decide_eq_true (by omega), hj]
theorem p64 {n : Nat} (h : n < 2 ^ 63) : n < 18446744073709551616 := Nat.lt_trans h (by decide)
theorem q64 {n : Nat} (h : n < 2 ^ 18) : n < 18446744073709551616 := Nat.lt_trans h (by decide)
theorem with_is (k : Nat) (s : Nat × Nat) (q : Int) (h : Good s) : set_Set_With.f (k + 1) (s.1 : Int) (s.2 : Int) q = some (((add s q).1 : Int), ((add s q).2 : Int)) := by
  unfold set_Set_With.f
  by_cases hq : 0 ≤ q ∧ q ≤ 80
  · obtain ⟨n, rfl⟩ : ∃ n : Nat, q = n := ⟨q.toNat, by omega⟩
    rw [bit_in k n (by omega)]
    simp only [Option.bind_some, set_Set_Or.f]
    unfold add
    rw [if_pos hq, bits_or_u64_nat _ _ (p64 h.1) (p64 (lo_lt n)), bits_or_u64_nat _ _ (q64 h.2) (q64 (hi_lt n (by omega)))]
    rfl
  · rw [bit_no k q (by omega)]
    simp only [Option.bind_some, set_Set_Or.f]
    unfold add
    rw [if_neg hq, show (0 : Int) = ((0 : Nat) : Int) from rfl, bits_or_u64_nat _ _ (p64 h.1) (by decide), bits_or_u64_nat _ _ (q64 h.2) (by decide), Nat.or_zero, Nat.or_zero]
theorem and_pow (a q : Nat) : (a &&& 2 ^ q == 0) = !a.testBit q := by
  cases h : a.testBit q
  · have : a &&& 2 ^ q = 0 := Nat.eq_of_testBit_eq fun i => by
      rw [Nat.testBit_and, Nat.testBit_two_pow, Nat.zero_testBit]
      by_cases e : q = i
      · rw [← e, h]; rfl
      · rw [decide_eq_false e, Bool.and_false]
    rw [this]; rfl
  · rw [Bool.not_true, beq_eq_false_iff_ne]
    intro h0
    have := congrArg (fun n => Nat.testBit n q) h0
    simp [Nat.testBit_and, Nat.testBit_two_pow_self, h] at this
theorem has_is (k : Nat) (s : Nat × Nat) (q : Nat) (h : Good s) (hq : q ≤ 80) : set_Set_Has.f (k + 1) (s.1 : Int) (s.2 : Int) (q : Int) = some (has s q) := by
  unfold set_Set_Has.f
  rw [bit_in k q hq]
  simp only [Option.bind_some, set_Set_And.f, set_Set_Empty.f]
  rw [bits_and_u64_nat _ _ (p64 h.1) (p64 (lo_lt q)), bits_and_u64_nat _ _ (q64 h.2) (q64 (hi_lt q hq))]
  unfold has lo hi
  have c : ∀ n : Nat, ((n : Int) == 0) = (n == 0) := fun n => by rw [Bool.eq_iff_iff, beq_iff_eq, beq_iff_eq]; omega
  by_cases h63 : q < 63
  · rw [if_pos h63, if_pos h63, if_pos h63, Nat.and_zero, c, and_pow]
    simp
  · rw [if_neg h63, if_neg h63, if_neg h63, Nat.and_zero, c, c, and_pow]
    simp
theorem has_no (k : Nat) (s : Nat × Nat) (q : Int) (h : Good s) (hq : q < 0 ∨ 80 < q) : set_Set_Has.f (k + 1) (s.1 : Int) (s.2 : Int) q = some false := by
  unfold set_Set_Has.f
  rw [bit_no k q hq]
  simp only [Option.bind_some, set_Set_And.f, set_Set_Empty.f]
  rw [show (0 : Int) = ((0 : Nat) : Int) from rfl, bits_and_u64_nat _ _ (p64 h.1) (by decide), bits_and_u64_nat _ _ (q64 h.2) (by decide), Nat.and_zero, Nat.and_zero]
  rfl

open kakugyolaw01_SetPuts
def del (s : Nat × Nat) (q : Int) : Nat × Nat := if 0 ≤ q ∧ q ≤ 80 then (s.1 &&& (18446744073709551615 - lo q.toNat), s.2 &&& (18446744073709551615 - hi q.toNat)) else s
theorem good_del (s : Nat × Nat) (q : Int) (h : Good s) : Good (del s q) := by
  unfold del
  split
  · exact ⟨Nat.lt_of_le_of_lt Nat.and_le_left h.1, Nat.lt_of_le_of_lt Nat.and_le_left h.2⟩
  · exact h
theorem without_is (k : Nat) (s : Nat × Nat) (q : Int) (h : Good s) : set_Set_Without.f (k + 1) (s.1 : Int) (s.2 : Int) q = some (((del s q).1 : Int), ((del s q).2 : Int)) := by
  unfold set_Set_Without.f
  by_cases hq : 0 ≤ q ∧ q ≤ 80
  · obtain ⟨n, rfl⟩ : ∃ n : Nat, q = n := ⟨q.toNat, by omega⟩
    rw [bit_in k n (by omega)]
    simp only [Option.bind_some, set_Set_Minus.f]
    unfold del
    rw [if_pos hq, u64_andNot_nat _ _ (p64 h.1) (p64 (lo_lt n)), u64_andNot_nat _ _ (q64 h.2) (q64 (hi_lt n (by omega)))]
    rfl
  · rw [bit_no k q (by omega)]
    simp only [Option.bind_some, set_Set_Minus.f]
    unfold del
    rw [if_neg hq, show (0 : Int) = ((0 : Nat) : Int) from rfl, u64_andNot_nat _ _ (p64 h.1) (by decide), u64_andNot_nat _ _ (q64 h.2) (by decide)]
    have e : ∀ a : Nat, a < 18446744073709551616 → a &&& (18446744073709551615 - 0) = a := fun a ha => by
      have := Nat.and_two_pow_sub_one_eq_mod a 64
      rw [show (18446744073709551615 - 0 : Nat) = 2 ^ 64 - 1 from rfl, this]
      exact Nat.mod_eq_of_lt ha
    rw [e _ (p64 h.1), e _ (q64 h.2)]
theorem bit_lo (q j : Nat) : (lo q).testBit j = (decide (q < 63) && decide (j = q)) := by
  unfold lo
  by_cases h : q < 63
  · rw [if_pos h, Nat.testBit_two_pow]
    simp [h, eq_comm]
  · rw [if_neg h]
    simp [h]
theorem bit_hi (q j : Nat) : (hi q).testBit j = (!decide (q < 63) && decide (j = q - 63)) := by
  unfold hi
  by_cases h : q < 63
  · rw [if_pos h]
    simp [h]
  · rw [if_neg h, Nat.testBit_two_pow]
    simp [h, eq_comm]
theorem bit_not (b j : Nat) (hb : b < 2 ^ 64) (hj : j < 64) : (18446744073709551615 - b).testBit j = !b.testBit j := by
  have e : 18446744073709551615 - b = 2 ^ 64 - (b + 1) := by omega
  rw [e, Nat.testBit_two_pow_sub_succ hb]
  simp [hj]
theorem has_add (s : Nat × Nat) (q : Int) (j : Nat) (hj : j ≤ 80) (hq : 0 ≤ q ∧ q ≤ 80) : has (add s q) j = (has s j || decide (j = q.toNat)) := by
  unfold add has
  rw [if_pos hq]
  by_cases h : j < 63
  · rw [if_pos h, if_pos h]
    simp only [Nat.testBit_or, bit_lo]
    by_cases e : j = q.toNat
    · have : q.toNat < 63 := by omega
      simp [e, this]
    · simp [e]
  · rw [if_neg h, if_neg h]
    simp only [Nat.testBit_or, bit_hi]
    by_cases e : j = q.toNat
    · have : ¬ q.toNat < 63 := by omega
      simp [e, this]
    · have : ¬ (¬ q.toNat < 63 ∧ j - 63 = q.toNat - 63) := by omega
      by_cases h3 : q.toNat < 63
      · simp [e, h3]
      · have h4 : ¬ j - 63 = q.toNat - 63 := fun x => this ⟨h3, x⟩
        simp [e, h4]
theorem has_del (s : Nat × Nat) (q : Int) (j : Nat) (hj : j ≤ 80) (hq : 0 ≤ q ∧ q ≤ 80) : has (del s q) j = (has s j && !decide (j = q.toNat)) := by
  unfold del has
  rw [if_pos hq]
  have hl := lo_lt q.toNat
  have hh := hi_lt q.toNat (by omega)
  by_cases h : j < 63
  · rw [if_pos h, if_pos h]
    simp only [Nat.testBit_and]
    rw [bit_not _ _ (Nat.lt_trans hl (by decide)) (by omega), bit_lo]
    by_cases e : j = q.toNat
    · have : q.toNat < 63 := by omega
      simp [e, this]
    · simp [e]
  · rw [if_neg h, if_neg h]
    simp only [Nat.testBit_and]
    rw [bit_not _ _ (Nat.lt_trans hh (by decide)) (by omega), bit_hi]
    by_cases e : j = q.toNat
    · have : ¬ q.toNat < 63 := by omega
      simp [e, this]
    · have : ¬ (¬ q.toNat < 63 ∧ j - 63 = q.toNat - 63) := by omega
      by_cases h3 : q.toNat < 63
      · simp [e, h3]
      · have h4 : ¬ j - 63 = q.toNat - 63 := fun x => this ⟨h3, x⟩
        simp [e, h4]
def rowOf (s : Nat × Nat) : List Bool := (List.range 81).map fun j => has s j
theorem bit_int (a q : Nat) : ((((a : Nat) : Int) / 2 ^ q).tmod 2 == 1) = a.testBit q := by
  have e : ((a : Nat) : Int) / 2 ^ q = ((a / 2 ^ q : Nat) : Int) := by
    rw [Int.natCast_ediv]
    norm_cast
  rw [e, Nat.testBit_eq_decide_div_mod_eq]
  generalize a / 2 ^ q = x
  rw [Int.tmod_eq_emod_of_nonneg (Int.natCast_nonneg x), Bool.eq_iff_iff, beq_iff_eq, decide_eq_true_eq]
  omega
theorem row_is (s : Nat × Nat) : rowTo (s.1 : Int) (s.2 : Int) 81 = rowOf s := by
  unfold rowTo rowOf
  apply List.map_congr_left
  intro j hj
  rw [if_pos (List.mem_range.1 hj)]
  unfold bitOf has
  split
  · exact bit_int _ _
  · exact bit_int _ _
theorem row_len (s : Nat × Nat) : (rowOf s).length = 81 := by simp [rowOf]
theorem row_add (s : Nat × Nat) (q : Int) : putL (rowOf s) q true = rowOf (add s q) := by
  unfold putL
  by_cases h : 0 ≤ q ∧ q < 81
  · rw [if_pos h]
    apply List.ext_getElem (by simp [rowOf])
    intro i h1 h2
    have hi : i < 81 := by rw [row_len] at h2; exact h2
    rw [List.getElem_set]
    simp only [rowOf, List.getElem_map, List.getElem_range]
    rw [has_add s q i (by omega) (by omega)]
    by_cases e : q.toNat = i
    · rw [if_pos e]; simp [e]
    · rw [if_neg e]; simp [Ne.symm e]
  · rw [if_neg h]
    unfold add
    rw [if_neg (by omega)]
theorem row_del (s : Nat × Nat) (q : Int) : putL (rowOf s) q false = rowOf (del s q) := by
  unfold putL
  by_cases h : 0 ≤ q ∧ q < 81
  · rw [if_pos h]
    apply List.ext_getElem (by simp [rowOf])
    intro i h1 h2
    have hi : i < 81 := by rw [row_len] at h2; exact h2
    rw [List.getElem_set]
    simp only [rowOf, List.getElem_map, List.getElem_range]
    rw [has_del s q i (by omega) (by omega)]
    by_cases e : q.toNat = i
    · rw [if_pos e]; simp [e]
    · rw [if_neg e]; simp [Ne.symm e]
  · rw [if_neg h]
    unfold del
    rw [if_neg (by omega)]
theorem puts_is : ∀ (l : List Int) (s : Nat × Nat), puts (rowOf s) l = rowOf (l.foldl add s)
  | [], s => rfl
  | q :: l, s => by
    unfold puts
    rw [row_add, puts_is l (add s q)]
    rfl
theorem good_fold : ∀ (l : List Int) (s : Nat × Nat), Good s → Good (l.foldl add s)
  | [], s, h => h
  | q :: l, s, h => good_fold l (add s q) (good_add s q h)
theorem of_loop (l : List Int) (hl : l.length ≤ 9223372036854775807) : ∀ (d k i : Nat) (s : Nat × Nat), i + d = l.length → d + 2 ≤ k → Good s → set_Of.l0 k l (l.length : Int) (i : Int) (s.1 : Int) (s.2 : Int) = some ((((l.drop i).foldl add s).1 : Int), (((l.drop i).foldl add s).2 : Int)) := by
  intro d
  induction d with
  | zero =>
    intro k i s h1 hk hg
    obtain ⟨k, rfl⟩ : ∃ m, k = m + 1 := ⟨k - 1, by omega⟩
    simp only [set_Of.l0]
    rw [if_neg (by omega), List.drop_of_length_le (by omega)]
    rfl
  | succ d ih =>
    intro k i s h1 hk hg
    obtain ⟨k, rfl⟩ : ∃ m, k = m + 1 := ⟨k - 1, by omega⟩
    simp only [set_Of.l0]
    obtain ⟨k, rfl⟩ : ∃ m, k = m + 1 := ⟨k - 1, by omega⟩
    have e : rd l (i : Int) = l[i]'(by omega) := by
      unfold rd
      rw [show ((i : Int)).toNat = i by omega, List.getD_eq_getElem?_getD, List.getElem?_eq_getElem (by omega)]
      rfl
    rw [if_pos (by omega), if_pos (by omega), if_pos (by omega), with_is k s _ hg, Option.bind_some, show wrap64 ((i : Int) + 1) = ((i + 1 : Nat) : Int) by unfold wrap64; omega]
    dsimp only
    rw [ih (k + 1) (i + 1) (add s (rd l (i : Int))) (by omega) (by omega) (good_add s _ hg), List.drop_eq_getElem_cons (show i < l.length by omega), e]
    rfl
theorem takes_is (k : Nat) : ∀ (l : List Int) (s : Nat × Nat), Good s → takes (k + 1) l (s.1 : Int) (s.2 : Int) (rowOf s) = some true
  | [], s, _ => rfl
  | q :: l, s, h => by
    unfold takes
    rw [without_is k s q h, Option.bind_some]
    have hg := good_del s q h
    have hh : set_Set_Has.f (k + 1) ((del s q).1 : Int) ((del s q).2 : Int) q = some false := by
      by_cases hq : 0 ≤ q ∧ q ≤ 80
      · obtain ⟨n, rfl⟩ : ∃ n : Nat, q = n := ⟨q.toNat, by omega⟩
        rw [has_is k (del s n) n hg (by omega), has_del s n n (by omega) hq]
        simp
      · exact has_no k (del s q) q hg (by omega)
    dsimp only
    rw [hh, Option.bind_some, if_pos ⟨rfl, by rw [row_is, row_del]⟩, row_del]
    exact takes_is k l (del s q) hg
theorem SetPuts : kakugyolaw01_SetPuts.Pure := by
  intro l0 l1 hm _ _ _ _ _
  have hmax : l0.length ≤ 9223372036854775807 := by
    have : maxLen ≤ 9223372036854775807 := by decide
    omega
  have hn : kakugyolaw01_holds.f (l0.length + 100) = some true := at_rounds (g := fun k => kakugyolaw01_holds.f k) (fun k => kakugyolaw01_holds.mono k) (show 60 ≤ l0.length + 100 by omega) (by decide +kernel)
  have ho : set_Of.f (l0.length + 100) l0 = some (((l0.foldl add (0, 0)).1 : Int), ((l0.foldl add (0, 0)).2 : Int)) := by
    have := of_loop l0 hmax l0.length (l0.length + 100) 0 (0, 0) (by omega) (by omega) good0
    rw [List.drop_zero] at this
    exact this
  have hz : zl = rowOf (0, 0) := by decide
  unfold kakugyolaw01_SetPuts.f
  rw [hn, Option.bind_some, ho, Option.bind_some]
  dsimp only
  have hp : puts zl l0 = rowOf (l0.foldl add (0, 0)) := by rw [hz]; exact puts_is l0 (0, 0)
  rw [hp, if_pos ⟨rfl, row_is _⟩]
  exact takes_is (l0.length + 99) l1 _ (good_fold l0 _ good0)

end Go.Proofs.YtmoeodcmfjnihaaDoor.Pure
