/- For every kind and square the law StepTurns answers true: the fifteen kinds and 81 squares one by one, over sets as two natural numbers; of other numbers it asks nothing. -/
import Derived.Test.YtmoeodcmfjnihaaPax7
import Derived.Test.YtmoeodcmfjnihaaPax4
import Derived.Test.YtmoeodcmfjnihaaPax6
import Derived.Laws.Bits64b
import Derived.OpenShut
namespace Go.Proofs.Ytmoeodcmfjnihaa.Pure
open Go.RowKit Go.Proofs.Ytmoeodcmfjnihaa.Pa Go.Proofs.YtmoeodcmfjnihaaW.PrintWords Go.Proofs.YtmoeodcmfjnihaaW.PrintLast Go.Proofs.YtmoeodcmfjnihaaW.PrintMore
set_option linter.unusedVariables false
set_option linter.unusedSimpArgs false

theorem all_i8 (P : Int → Bool) (h : (List.range 256).all (fun n => P ((n : Int) - 128)) = true) (a : Int) (ha : (Lit.int .i8 a).wf = true) : P a = true := by
  have hb := bounds_i8 ha
  have := List.all_eq_true.1 h (a + 128).toNat (List.mem_range.2 (by omega))
  rw [show (((a + 128).toNat : Nat) : Int) - 128 = a by omega] at this
  exact this
theorem all_to (m : Nat) (P : Int → Bool) (h : (List.range m).all (fun n => P (n : Int)) = true) (a : Int) (h0 : 0 ≤ a) (h1 : a < m) : P a = true := by
  have := List.all_eq_true.1 h a.toNat (List.mem_range.2 (by omega))
  rw [show ((a.toNat : Nat) : Int) = a by omega] at this
  exact this
theorem of_beq_some {o : Option Bool} (h : (o == some true) = true) : o = some true := by simpa using h

def lo (q : Nat) : Nat := if q < 63 then 2 ^ q else 0
def hi (q : Nat) : Nat := if q < 63 then 0 else 2 ^ (q - 63)
def add (s : Nat × Nat) (q : Int) : Nat × Nat := if 0 ≤ q ∧ q ≤ 80 then (s.1 ||| lo q.toNat, s.2 ||| hi q.toNat) else s
def has (s : Nat × Nat) (q : Nat) : Bool := if q < 63 then s.1.testBit q else s.2.testBit (q - 63)
def Good (s : Nat × Nat) : Prop := s.1 < 2 ^ 63 ∧ s.2 < 2 ^ 18
theorem good0 : Good (0, 0) := by unfold Good; decide
theorem lo_lt (q : Nat) : lo q < 2 ^ 63 := by
  unfold lo; split
  · exact Nat.pow_lt_pow_right (by omega) (by assumption)
  · decide
theorem hi_lt (q : Nat) (h : q ≤ 80) : hi q < 2 ^ 18 := by
  unfold hi; split
  · decide
  · exact Nat.pow_lt_pow_right (by omega) (by omega)
theorem good_add (s : Nat × Nat) (q : Int) (h : Good s) : Good (add s q) := by
  unfold add; split
  · exact ⟨Nat.or_lt_two_pow h.1 (lo_lt _), Nat.or_lt_two_pow h.2 (hi_lt _ (by omega))⟩
  · exact h
theorem shl_one (q : Nat) (h : q < 64) : shl .u64 1 (q : Int) = ((2 ^ q : Nat) : Int) := by
  have hp : ∀ q, q < 64 → (IntKind.u64.wrap (1 * 2 ^ min ((q : Nat) : Int).toNat IntKind.u64.bits)) = ((2 ^ q : Nat) : Int) := by decide +kernel
  exact hp q h
theorem bit_in (k q : Nat) (h : q ≤ 80) : set_bit.f (k + 1) (q : Int) = some (((lo q : Nat) : Int), ((hi q : Nat) : Int)) := by
  unfold set_bit.f
  rw [if_neg (by omega), show (decide ((q : Int) ≥ 81)) = false from decide_eq_false (by omega)]
  simp only [set_bit.j0]
  rw [if_neg (by decide)]
  unfold lo hi
  by_cases h63 : q < 63
  · rw [if_pos (by omega), if_pos (by omega), shl_one q (by omega), if_pos h63, if_pos h63]; rfl
  · have e : wrap64 ((q : Int) - 63) = ((q - 63 : Nat) : Int) := by unfold wrap64; omega
    rw [if_neg (by omega), e, if_pos (by omega), shl_one (q - 63) (by omega), if_neg h63, if_neg h63]; rfl
theorem bit_no (k : Nat) (q : Int) (h : q < 0 ∨ 80 < q) : set_bit.f (k + 1) q = some (0, 0) := by
  unfold set_bit.f
  have hj : set_bit.j0 (k + 1) q true = some (0, 0) := by simp only [set_bit.j0]; rw [if_pos trivial]
  by_cases a : q < 0
  · rw [if_pos a, hj]
  · rw [if_neg a, show (decide (q ≥ 81)) = true from decide_eq_true (by omega), hj]
theorem p64 {n : Nat} (h : n < 2 ^ 63) : n < 18446744073709551616 := Nat.lt_trans h (by decide)
theorem q64 {n : Nat} (h : n < 2 ^ 18) : n < 18446744073709551616 := Nat.lt_trans h (by decide)
theorem with_is (k : Nat) (s : Nat × Nat) (q : Int) (h : Good s) : set_Set_With.f (k + 1) (s.1 : Int) (s.2 : Int) q = some (((add s q).1 : Int), ((add s q).2 : Int)) := by
  unfold set_Set_With.f
  by_cases hq : 0 ≤ q ∧ q ≤ 80
  · obtain ⟨n, rfl⟩ : ∃ n : Nat, q = n := ⟨q.toNat, by omega⟩
    rw [bit_in k n (by omega)]
    simp only [Option.bind_some, set_Set_Or.f]
    unfold add
    rw [if_pos hq, bits_or_u64_nat _ _ (p64 h.1) (p64 (lo_lt n)), bits_or_u64_nat _ _ (q64 h.2) (q64 (hi_lt n (by omega)))]
    rfl
  · rw [bit_no k q (by omega)]
    simp only [Option.bind_some, set_Set_Or.f]
    unfold add
    rw [if_neg hq, show (0 : Int) = ((0 : Nat) : Int) from rfl, bits_or_u64_nat _ _ (p64 h.1) (by decide), bits_or_u64_nat _ _ (q64 h.2) (by decide), Nat.or_zero, Nat.or_zero]
theorem and_pow (a q : Nat) : (a &&& 2 ^ q == 0) = !a.testBit q := by
  cases h : a.testBit q
  · have : a &&& 2 ^ q = 0 := Nat.eq_of_testBit_eq fun i => by
      rw [Nat.testBit_and, Nat.testBit_two_pow, Nat.zero_testBit]
      by_cases e : q = i
      · rw [← e, h]; rfl
      · rw [decide_eq_false e, Bool.and_false]
    rw [this]; rfl
  · rw [Bool.not_true, beq_eq_false_iff_ne]
    intro h0
    have := congrArg (fun n => Nat.testBit n q) h0
    simp [Nat.testBit_and, Nat.testBit_two_pow_self, h] at this
theorem has_is (k : Nat) (s : Nat × Nat) (q : Nat) (h : Good s) (hq : q ≤ 80) : set_Set_Has.f (k + 1) (s.1 : Int) (s.2 : Int) (q : Int) = some (has s q) := by
  unfold set_Set_Has.f
  rw [bit_in k q hq]
  simp only [Option.bind_some, set_Set_And.f, set_Set_Empty.f]
  rw [bits_and_u64_nat _ _ (p64 h.1) (p64 (lo_lt q)), bits_and_u64_nat _ _ (q64 h.2) (q64 (hi_lt q hq))]
  unfold has lo hi
  have c : ∀ n : Nat, ((n : Int) == 0) = (n == 0) := fun n => by rw [Bool.eq_iff_iff, beq_iff_eq, beq_iff_eq]; omega
  by_cases h63 : q < 63
  · rw [if_pos h63, if_pos h63, if_pos h63, Nat.and_zero, c, and_pow]
    simp
  · rw [if_neg h63, if_neg h63, if_neg h63, Nat.and_zero, c, c, and_pow]
    simp
theorem has_no (k : Nat) (s : Nat × Nat) (q : Int) (h : Good s) (hq : q < 0 ∨ 80 < q) : set_Set_Has.f (k + 1) (s.1 : Int) (s.2 : Int) q = some false := by
  unfold set_Set_Has.f
  rw [bit_no k q hq]
  simp only [Option.bind_some, set_Set_And.f, set_Set_Empty.f]
  rw [show (0 : Int) = ((0 : Nat) : Int) from rfl, bits_and_u64_nat _ _ (p64 h.1) (by decide), bits_and_u64_nat _ _ (q64 h.2) (by decide), Nat.and_zero, Nat.and_zero]
  rfl

/-- The square that is so many files and ranks on, or -1. -/
def fromI (dx dy q : Int) : Int := if (0 ≤ q ∧ q ≤ 80 ∧ -8 ≤ dx ∧ dx ≤ 8 ∧ -8 ≤ dy ∧ dy ≤ 8) ∧ 0 ≤ q / 9 + dx ∧ q / 9 + dx ≤ 8 ∧ 0 ≤ q % 9 + dy ∧ q % 9 + dy ≤ 8 then 9 * (q / 9 + dx) + (q % 9 + dy) else -1
theorem from_is (dx dy q : Int) : step_Dir_From.f dx dy q = some (fromI dx dy q) := by
  unfold step_Dir_From.f fromI
  by_cases h1 : q < 0
  · rw [if_pos h1, if_neg (by omega)]
  rw [if_neg h1]
  by_cases h2 : q ≥ 81
  · rw [if_pos h2, if_neg (by omega)]
  rw [if_neg h2]
  by_cases h3 : dx < -8
  · rw [if_pos h3, if_neg (by omega)]
  rw [if_neg h3]
  by_cases h4 : dx > 8
  · rw [if_pos h4, if_neg (by omega)]
  rw [if_neg h4]
  by_cases h5 : dy < -8
  · rw [if_pos h5, if_neg (by omega)]
  rw [if_neg h5]
  by_cases h6 : dy > 8
  · rw [if_pos h6, if_neg (by omega)]
  rw [if_neg h6]
  unfold set_Square.f
  by_cases g1 : q / 9 + dx < 0
  · rw [if_pos g1, if_neg (by omega)]
  rw [if_neg g1]
  by_cases g2 : q / 9 + dx > 8
  · rw [if_pos g2, if_neg (by omega)]
  rw [if_neg g2]
  by_cases g3 : q % 9 + dy < 0
  · rw [if_pos g3, if_neg (by omega)]
  rw [if_neg g3]
  by_cases g4 : q % 9 + dy > 8
  · rw [if_pos g4, if_neg (by omega)]
  rw [if_neg g4, if_pos ⟨⟨by omega, by omega, by omega, by omega, by omega, by omega⟩, by omega, by omega, by omega, by omega⟩]
  have e1 : wrap64 (9 * (q / 9 + dx)) = 9 * (q / 9 + dx) := by unfold wrap64; omega
  rw [e1]
  have e2 : wrap64 (9 * (q / 9 + dx) + (q % 9 + dy)) = 9 * (q / 9 + dx) + (q % 9 + dy) := by unfold wrap64; omega
  rw [e2]
def turnI (side : Int) (d : S23) : Int × Int := if side = 1 then (-d.f0, -d.f1) else (d.f0, d.f1)
def stepFold (side q : Int) : List S23 → Nat × Nat → Nat × Nat
  | [], s => s
  | d :: l, s => stepFold side q l (add s (fromI (turnI side d).1 (turnI side d).2 q))
theorem fold_nil (side q : Int) (s : Nat × Nat) : stepFold side q [] s = s := rfl
theorem fold_cons (side q : Int) (d : S23) (l : List S23) (s : Nat × Nat) : stepFold side q (d :: l) s = stepFold side q l (add s (fromI (turnI side d).1 (turnI side d).2 q)) := rfl
theorem good_fold (side q : Int) (l : List S23) : ∀ s, Good s → Good (stepFold side q l s) := by
  induction l with
  | nil => intro s h; exact h
  | cons d l ih => intro s h; exact ih _ (good_add s _ h)
def small (l : List S23) : Bool := l.all fun d => decide (-8 ≤ d.f0) && decide (d.f0 ≤ 8) && decide (-8 ≤ d.f1) && decide (d.f1 ≤ 8)
theorem fold_is (p q side : Int) (kk : Nat) (hside : ∀ k, kk ≤ k → piece_Side.f k p = some side) (L : List S23) (hL : L.length ≤ 20) (hs : small L = true) : ∀ (d k i : Nat) (s : Nat × Nat), i ≤ L.length → L.length - i = d → d + kk + 5 < k → Good s →
    step_Of.l0 k p q L (L.length : Int) (i : Int) (s.1 : Int) (s.2 : Int) = some (((stepFold side q (L.drop i) s).1 : Int), ((stepFold side q (L.drop i) s).2 : Int)) := by
  intro d
  induction d with
  | zero =>
    intro k i s h1 h2 hk hg
    obtain ⟨k, rfl⟩ : ∃ m, k = m + 1 := ⟨k - 1, by omega⟩
    simp only [step_Of.l0]
    rw [if_neg (by omega), List.drop_eq_nil_of_le (by omega), fold_nil]
  | succ d ih =>
    intro k i s h1 h2 hk hg
    obtain ⟨k, rfl⟩ : ∃ m, k = m + 1 := ⟨k - 1, by omega⟩
    have hi : i < L.length := by omega
    have hrd : rd_T23 L (i : Int) = L[i] := by
      unfold rd_T23
      rw [Int.toNat_natCast, List.getD_eq_getElem?_getD, List.getElem?_eq_getElem hi]; rfl
    have hb := List.all_eq_true.1 hs L[i] (List.getElem_mem hi)
    simp only [Bool.and_eq_true, decide_eq_true_eq] at hb
    have ht : step_Dir_Turn.f (L[i]).f0 (L[i]).f1 side = some (turnI side L[i]) := by
      unfold step_Dir_Turn.f turnI
      by_cases h : side = 1
      · rw [if_pos h, if_pos h, show wrap64 (-(L[i]).f0) = -(L[i]).f0 by unfold wrap64; omega, show wrap64 (-(L[i]).f1) = -(L[i]).f1 by unfold wrap64; omega]
      · rw [if_neg h, if_neg h]
    simp only [step_Of.l0]
    obtain ⟨k', rfl⟩ : ∃ m, k = m + 1 := ⟨k - 1, by omega⟩
    rw [if_pos (by omega), if_pos (by omega), if_pos (by omega), hside (k' + 1) (by omega)]
    simp only [Option.bind_some]
    rw [hrd, ht]
    simp only [Option.bind_some]
    rw [from_is]
    simp only [Option.bind_some]
    have hw : wrap64 ((i : Int) + 1) = ((i + 1 : Nat) : Int) := by clear ih hside ht hrd hb hs; unfold wrap64; omega
    have hz := ih (k' + 1) (i + 1) (add s (fromI (turnI side L[i]).1 (turnI side L[i]).2 q)) (by omega) (by omega) (by omega) (good_add s _ hg)
    rw [with_is k' s _ hg, Option.bind_some]
    dsimp only
    rw [hw, hz, List.drop_eq_getElem_cons hi, fold_cons]

def kindT (p : Int) : Nat := if 1 ≤ p ∧ p ≤ 15 ∧ p ≠ 13 then p.toNat else if 17 ≤ p ∧ p ≤ 31 ∧ p ≠ 29 then p.toNat - 16 else 0
def sideT (p : Int) : Int := if kindT p = 0 then -1 else if p < 16 then 0 else 1
theorem kindT_le (p : Int) : kindT p ≤ 15 := by
  unfold kindT; repeat' split
  all_goals omega
def okPiece (p : Int) : Bool := piece_Kind.f 5 p == some ((kindT p : Nat) : Int) && piece_Side.f 5 p == some (sideT p)
theorem piece_is (p : Int) (hp : (Lit.int .i8 p).wf = true) : (∀ k, 5 ≤ k → piece_Kind.f k p = some ((kindT p : Nat) : Int)) ∧ (∀ k, 5 ≤ k → piece_Side.f k p = some (sideT p)) := by
  have h := all_i8 okPiece (by decide +kernel) p hp
  unfold okPiece at h
  rw [Bool.and_eq_true, beq_iff_eq, beq_iff_eq] at h
  exact ⟨fun k hk => at_rounds (g := fun k => piece_Kind.f k p) (fun k => piece_Kind.mono p k) hk h.1, fun k hk => at_rounds (g := fun k => piece_Side.f k p) (fun k => piece_Side.mono p k) hk h.2⟩
def dirsT (kind : Nat) : List S23 :=
  match kind with
  | 1 => [⟨0, -1⟩]
  | 3 => [⟨-1, -2⟩, ⟨1, -2⟩]
  | 4 => [⟨-1, -1⟩, ⟨0, -1⟩, ⟨1, -1⟩, ⟨-1, 1⟩, ⟨1, 1⟩]
  | 5 | 9 | 10 | 11 | 12 => [⟨-1, -1⟩, ⟨0, -1⟩, ⟨1, -1⟩, ⟨-1, 0⟩, ⟨1, 0⟩, ⟨0, 1⟩]
  | 8 => [⟨-1, -1⟩, ⟨0, -1⟩, ⟨1, -1⟩, ⟨-1, 0⟩, ⟨1, 0⟩, ⟨0, 1⟩, ⟨-1, 1⟩, ⟨1, 1⟩]
  | 14 => [⟨0, -1⟩, ⟨-1, 0⟩, ⟨1, 0⟩, ⟨0, 1⟩]
  | 15 => [⟨-1, -1⟩, ⟨1, -1⟩, ⟨-1, 1⟩, ⟨1, 1⟩]
  | _ => []
theorem dirs_is (kind : Nat) (h : kind ≤ 15) (k : Nat) (hk : 10 ≤ k) : step_Dirs.f k (kind : Int) = some (dirsT kind) := by
  refine at_rounds (g := fun k => step_Dirs.f k (kind : Int)) (fun k => step_Dirs.mono _ k) hk ?_
  obtain rfl | rfl | rfl | rfl | rfl | rfl | rfl | rfl | rfl | rfl | rfl | rfl | rfl | rfl | rfl | rfl : kind = 0 ∨ kind = 1 ∨ kind = 2 ∨ kind = 3 ∨ kind = 4 ∨ kind = 5 ∨ kind = 6 ∨ kind = 7 ∨ kind = 8 ∨ kind = 9 ∨ kind = 10 ∨ kind = 11 ∨ kind = 12 ∨ kind = 13 ∨ kind = 14 ∨ kind = 15 := by omega
  all_goals kernel_rfl
theorem dirs_small (kind : Nat) (h : kind ≤ 15) : (dirsT kind).length ≤ 20 ∧ small (dirsT kind) = true := by
  obtain rfl | rfl | rfl | rfl | rfl | rfl | rfl | rfl | rfl | rfl | rfl | rfl | rfl | rfl | rfl | rfl : kind = 0 ∨ kind = 1 ∨ kind = 2 ∨ kind = 3 ∨ kind = 4 ∨ kind = 5 ∨ kind = 6 ∨ kind = 7 ∨ kind = 8 ∨ kind = 9 ∨ kind = 10 ∨ kind = 11 ∨ kind = 12 ∨ kind = 13 ∨ kind = 14 ∨ kind = 15 := by omega
  all_goals exact ⟨by decide, by decide⟩
def stepN (kind : Nat) (side q : Int) : Nat × Nat := stepFold side q (dirsT kind) (0, 0)
theorem good_step (kind : Nat) (side q : Int) : Good (stepN kind side q) := good_fold _ _ _ _ good0
theorem step_is (p q : Int) (hp : (Lit.int .i8 p).wf = true) (k : Nat) (hk : 60 ≤ k) : step_Of.f k p q = some (((stepN (kindT p) (sideT p) q).1 : Int), ((stepN (kindT p) (sideT p) q).2 : Int)) := by
  obtain ⟨h1, h2⟩ := piece_is p hp
  obtain ⟨d1, d2⟩ := dirs_small (kindT p) (kindT_le p)
  unfold step_Of.f
  rw [h1 k (by omega)]
  simp only [Option.bind_some]
  rw [dirs_is (kindT p) (kindT_le p) k (by omega)]
  simp only [Option.bind_some]
  have := fold_is p q (sideT p) 5 h2 (dirsT (kindT p)) d1 d2 (dirsT (kindT p)).length k 0 (0, 0) (by omega) (by omega) (by omega) good0
  rw [List.drop_zero] at this
  exact this

def setOf (p q : Int) : Nat × Nat := stepN (kindT p) (sideT p) q
def counts (A B : Nat × Nat) : Option Bool := (set_Set_Count.f A.1 A.2).bind fun x => ((set_Set_Count.f B.1 B.2).bind fun y => (if x = y then ((set_Set_Count.f A.1 A.2).bind fun z => (some (decide (z ≤ 8)))) else (some false)))
def ask (kind : Nat) (q : Nat) : Bool :=
  ((List.range 81).all fun t => has (setOf kind q) t == has (setOf (16 + kind) (80 - (q : Int))) (80 - t)) && counts (setOf kind q) (setOf (16 + kind) (80 - (q : Int))) == some true && (stepN kind 0 q == setOf kind q)
def askK (kind : Nat) : Bool := (List.range 81).all fun q => ask kind q
theorem ask1 : askK 1 = true := by decide +kernel
theorem ask2 : askK 2 = true := by decide +kernel
theorem ask3 : askK 3 = true := by decide +kernel
theorem ask4 : askK 4 = true := by decide +kernel
theorem ask5 : askK 5 = true := by decide +kernel
theorem ask6 : askK 6 = true := by decide +kernel
theorem ask7 : askK 7 = true := by decide +kernel
theorem ask8 : askK 8 = true := by decide +kernel
theorem ask9 : askK 9 = true := by decide +kernel
theorem ask10 : askK 10 = true := by decide +kernel
theorem ask11 : askK 11 = true := by decide +kernel
theorem ask12 : askK 12 = true := by decide +kernel
theorem ask13 : askK 13 = true := by decide +kernel
theorem ask14 : askK 14 = true := by decide +kernel
theorem ask15 : askK 15 = true := by decide +kernel
theorem ask_all (kind : Nat) (h1 : 1 ≤ kind) (h2 : kind ≤ 15) : askK kind = true := by
  obtain rfl | rfl | rfl | rfl | rfl | rfl | rfl | rfl | rfl | rfl | rfl | rfl | rfl | rfl | rfl : kind = 1 ∨ kind = 2 ∨ kind = 3 ∨ kind = 4 ∨ kind = 5 ∨ kind = 6 ∨ kind = 7 ∨ kind = 8 ∨ kind = 9 ∨ kind = 10 ∨ kind = 11 ∨ kind = 12 ∨ kind = 13 ∨ kind = 14 ∨ kind = 15 := by omega
  · exact ask1
  · exact ask2
  · exact ask3
  · exact ask4
  · exact ask5
  · exact ask6
  · exact ask7
  · exact ask8
  · exact ask9
  · exact ask10
  · exact ask11
  · exact ask12
  · exact ask13
  · exact ask14
  · exact ask15
theorem i8_of (kind : Nat) (h2 : kind ≤ 15) : IntKind.i8.wrap (kind : Int) = (kind : Int) ∧ IntKind.i8.wrap (wrap64 ((kind : Int) + 16)) = 16 + (kind : Int) ∧ (Lit.int .i8 (kind : Int)).wf = true ∧ (Lit.int .i8 (16 + (kind : Int))).wf = true := by
  have : ∀ c, c ≤ 15 → IntKind.i8.wrap ((c : Nat) : Int) = ((c : Nat) : Int) ∧ IntKind.i8.wrap (wrap64 (((c : Nat) : Int) + 16)) = 16 + ((c : Nat) : Int) ∧ (Lit.int .i8 ((c : Nat) : Int)).wf = true ∧ (Lit.int .i8 (16 + ((c : Nat) : Int))).wf = true := by decide +kernel
  exact this kind h2
theorem l1_is (q : Int) (A B : Nat × Nat) (L : List S23) (hL : L.length ≤ 20) (hs : small L = true) (hc : counts A B = some true) (hA : ∀ s, Good s → True) : ∀ (d k i : Nat) (s : Nat × Nat), i ≤ L.length → L.length - i = d → d + 5 < k → Good s → stepFold 0 q (L.drop i) s = A →
    kakugyolaw03_StepTurns.l1 k q L (L.length : Int) (i : Int) (A.1 : Int) (A.2 : Int) (B.1 : Int) (B.2 : Int) (s.1 : Int) (s.2 : Int) = some true := by
  intro d
  induction d with
  | zero =>
    intro k i s h1 h2 hk hg he
    obtain ⟨k, rfl⟩ : ∃ m, k = m + 1 := ⟨k - 1, by omega⟩
    rw [List.drop_eq_nil_of_le (by omega), fold_nil] at he
    subst he
    simp only [kakugyolaw03_StepTurns.l1]
    rw [if_neg (by omega), if_neg (by simp)]
    exact hc
  | succ d ih =>
    intro k i s h1 h2 hk hg he
    obtain ⟨k, rfl⟩ : ∃ m, k = m + 1 := ⟨k - 1, by omega⟩
    have hi : i < L.length := by omega
    rw [List.drop_eq_getElem_cons hi, fold_cons] at he
    have ht : turnI 0 L[i] = ((L[i]).f0, (L[i]).f1) := by unfold turnI; rw [if_neg (by decide)]
    rw [ht] at he
    have hrd : rd_T23 L (i : Int) = L[i] := by
      unfold rd_T23
      rw [Int.toNat_natCast, List.getD_eq_getElem?_getD, List.getElem?_eq_getElem hi]; rfl
    have hw : wrap64 ((i : Int) + 1) = ((i + 1 : Nat) : Int) := by clear ih hrd hs hc he ht; unfold wrap64; omega
    have hz := ih k (i + 1) (add s (fromI (L[i]).f0 (L[i]).f1 q)) (by omega) (by omega) (by omega) (good_add s _ hg) he
    simp only [kakugyolaw03_StepTurns.l1]
    obtain ⟨k', rfl⟩ : ∃ m, k = m + 1 := ⟨k - 1, by omega⟩
    rw [if_pos (by omega), if_pos (by omega), if_pos (by omega), hrd, from_is, Option.bind_some, with_is k' s _ hg, Option.bind_some]
    dsimp only
    rw [hw]
    exact hz
theorem l0_is (kind : Nat) (hk1 : kind ≤ 15) (q : Int) (A B : Nat × Nat) (gA : Good A) (gB : Good B) (hsame : ∀ t, t < 81 → has A t = has B (80 - t)) (hc : counts A B = some true) (hN : stepN kind 0 q = A) : ∀ (d k i : Nat), i ≤ 81 → 81 - i = d → d + 60 < k →
    kakugyolaw03_StepTurns.l0 k (kind : Int) q (i : Int) (A.1 : Int) (A.2 : Int) (B.1 : Int) (B.2 : Int) = some true := by
  intro d
  induction d with
  | zero =>
    intro k i h1 h2 hk
    obtain ⟨k, rfl⟩ : ∃ m, k = m + 1 := ⟨k - 1, by omega⟩
    obtain ⟨d1, d2⟩ := dirs_small kind hk1
    have hl := l1_is q A B (dirsT kind) d1 d2 hc (fun _ _ => trivial) (dirsT kind).length k 0 (0, 0) (by omega) (by omega) (by omega) good0 (by rw [List.drop_zero]; exact hN)
    simp only [kakugyolaw03_StepTurns.l0]
    rw [if_neg (by omega), dirs_is kind hk1 k (by omega), Option.bind_some]
    exact hl
  | succ d ih =>
    intro k i h1 h2 hk
    obtain ⟨k, rfl⟩ : ∃ m, k = m + 1 := ⟨k - 1, by omega⟩
    have hw : wrap64 ((i : Int) + 1) = ((i + 1 : Nat) : Int) := by clear ih hsame hc hN; unfold wrap64; omega
    have hv : wrap64 (80 - (i : Int)) = ((80 - i : Nat) : Int) := by clear ih hsame hc hN; unfold wrap64; omega
    have hz := ih k (i + 1) (by omega) (by omega) (by omega)
    simp only [kakugyolaw03_StepTurns.l0]
    obtain ⟨m, rfl⟩ : ∃ m, k = m + 1 := ⟨k - 1, by omega⟩
    rw [if_pos (by omega), has_is m A i gA (by omega), Option.bind_some, hv, has_is m B (80 - i) gB (by omega), Option.bind_some, hsame i (by omega), if_neg (by simp), hw]
    exact hz
theorem inside (kind q : Nat) (h1 : 1 ≤ kind) (h2 : kind ≤ 15) (hq : q < 81) : kakugyolaw03_StepTurns.j0 200 (kind : Int) (q : Int) false = some true := by
  obtain ⟨e1, e2, w1, w2⟩ := i8_of kind h2
  have hv : wrap64 (80 - (q : Int)) = 80 - (q : Int) := by unfold wrap64; omega
  have s1 := step_is _ (q : Int) w1 199 (by omega)
  have s2 := step_is _ (80 - (q : Int)) w2 199 (by omega)
  have ha := List.all_eq_true.1 (ask_all kind h1 h2) q (List.mem_range.2 hq)
  unfold ask at ha
  rw [Bool.and_eq_true, Bool.and_eq_true, beq_iff_eq, beq_iff_eq] at ha
  obtain ⟨⟨a1, a2⟩, a3⟩ := ha
  show kakugyolaw03_StepTurns.j0 (199 + 1) _ _ _ = _
  simp only [kakugyolaw03_StepTurns.j0]
  rw [if_neg (by decide), e1, s1, Option.bind_some, e2, hv, s2, Option.bind_some]
  exact l0_is kind h2 (q : Int) _ _ (good_step _ _ _) (good_step _ _ _) (fun t ht => by have := List.all_eq_true.1 a1 t (List.mem_range.2 ht); rw [beq_iff_eq] at this; exact this) a2 a3 81 199 0 (by omega) (by omega) (by omega)
theorem StepTurns : kakugyolaw03_StepTurns.Pure := by
  intro a1 a2 _ _
  refine ⟨200, ?_⟩
  have hn : kakugyolaw03_steps.f 200 = some true := by decide +kernel
  have hj : kakugyolaw03_StepTurns.j0 200 a1 a2 true = some true := by
    show kakugyolaw03_StepTurns.j0 (199 + 1) _ _ _ = _
    simp only [kakugyolaw03_StepTurns.j0]
    rw [if_pos trivial]
  unfold kakugyolaw03_StepTurns.f
  rw [hn]
  simp only [Option.bind_some, if_true]
  by_cases g1 : a1 < 1
  · rw [if_pos g1, hj]
  rw [if_neg g1]
  by_cases g2 : a1 > 15
  · rw [if_pos g2, hj]
  rw [if_neg g2]
  by_cases g3 : a2 < 0
  · rw [if_pos g3, hj]
  rw [if_neg g3]
  by_cases g4 : a2 > 80
  · rw [decide_eq_true g4, hj]
  rw [decide_eq_false g4]
  obtain ⟨c, rfl⟩ : ∃ n : Nat, a1 = n := ⟨a1.toNat, by omega⟩
  obtain ⟨q, rfl⟩ : ∃ n : Nat, a2 = n := ⟨a2.toNat, by omega⟩
  exact inside c q (by omega) (by omega) (by omega)

end Go.Proofs.Ytmoeodcmfjnihaa.Pure
