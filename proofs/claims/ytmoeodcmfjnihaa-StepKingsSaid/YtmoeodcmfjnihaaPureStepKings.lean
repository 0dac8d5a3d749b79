/- For every side, kind and square the law StepKings answers true: all 2,430 of them one by one, over sets as two natural numbers; of other numbers it asks nothing. -/
import Derived.Test.YtmoeodcmfjnihaaPax8
import Derived.Test.YtmoeodcmfjnihaaPax4
import Derived.Laws.Bits64b
import Derived.OpenShut
namespace Go.Proofs.Ytmoeodcmfjnihaa.Pure
open Go.RowKit Go.Proofs.Ytmoeodcmfjnihaa.Pa Go.Proofs.YtmoeodcmfjnihaaW.PrintWords Go.Proofs.YtmoeodcmfjnihaaW.PrintLast Go.Proofs.YtmoeodcmfjnihaaW.PrintMore
set_option linter.unusedVariables false
set_option linter.unusedSimpArgs false

theorem all_i8 (P : Int → Bool) (h : (List.range 256).all (fun n => P ((n : Int) - 128)) = true) (a : Int) (ha : (Lit.int .i8 a).wf = true) : P a = true := by
  have hb := bounds_i8 ha
  have := List.all_eq_true.1 h (a + 128).toNat (List.mem_range.2 (by omega))
  rw [show (((a + 128).toNat : Nat) : Int) - 128 = a by omega] at this
  exact this
theorem all_to (m : Nat) (P : Int → Bool) (h : (List.range m).all (fun n => P (n : Int)) = true) (a : Int) (h0 : 0 ≤ a) (h1 : a < m) : P a = true := by
  have := List.all_eq_true.1 h a.toNat (List.mem_range.2 (by omega))
  rw [show ((a.toNat : Nat) : Int) = a by omega] at this
  exact this
theorem of_beq_some {o : Option Bool} (h : (o == some true) = true) : o = some true := by simpa using h

def lo (q : Nat) : Nat := if q < 63 then 2 ^ q else 0
def hi (q : Nat) : Nat := if q < 63 then 0 else 2 ^ (q - 63)
def add (s : Nat × Nat) (q : Int) : Nat × Nat := if 0 ≤ q ∧ q ≤ 80 then (s.1 ||| lo q.toNat, s.2 ||| hi q.toNat) else s
def has (s : Nat × Nat) (q : Nat) : Bool := if q < 63 then s.1.testBit q else s.2.testBit (q - 63)
def Good (s : Nat × Nat) : Prop := s.1 < 2 ^ 63 ∧ s.2 < 2 ^ 18
theorem good0 : Good (0, 0) := by unfold Good; decide
theorem lo_lt (q : Nat) : lo q < 2 ^ 63 := by
  unfold lo; split
  · exact Nat.pow_lt_pow_right (by omega) (by assumption)
  · decide
theorem hi_lt (q : Nat) (h : q ≤ 80) : hi q < 2 ^ 18 := by
  unfold hi; split
  · decide
  · exact Nat.pow_lt_pow_right (by omega) (by omega)
theorem good_add (s : Nat × Nat) (q : Int) (h : Good s) : Good (add s q) := by
  unfold add; split
  · exact ⟨Nat.or_lt_two_pow h.1 (lo_lt _), Nat.or_lt_two_pow h.2 (hi_lt _ (by omega))⟩
  · exact h
theorem shl_one (q : Nat) (h : q < 64) : shl .u64 1 (q : Int) = ((2 ^ q : Nat) : Int) := by
  have hp : ∀ q, q < 64 → (IntKind.u64.wrap (1 * 2 ^ min ((q : Nat) : Int).toNat IntKind.u64.bits)) = ((2 ^ q : Nat) : Int) := by decide +kernel
  exact hp q h
theorem bit_in (k q : Nat) (h : q ≤ 80) : set_bit.f (k + 1) (q : Int) = some (((lo q : Nat) : Int), ((hi q : Nat) : Int)) := by
  unfold set_bit.f
  rw [if_neg (by omega), show (decide ((q : Int) ≥ 81)) = false from decide_eq_false (by omega)]
  simp only [set_bit.j0]
  rw [if_neg (by decide)]
  unfold lo hi
  by_cases h63 : q < 63
  · rw [if_pos (by omega), if_pos (by omega), shl_one q (by omega), if_pos h63, if_pos h63]; rfl
  · have e : wrap64 ((q : Int) - 63) = ((q - 63 : Nat) : Int) := by unfold wrap64; omega
    rw [if_neg (by omega), e, if_pos (by omega), shl_one (q - 63) (by omega), if_neg h63, if_neg h63]; rfl
theorem bit_no (k : Nat) (q : Int) (h : q < 0 ∨ 80 < q) : set_bit.f (k + 1) q = some (0, 0) := by
  unfold set_bit.f
  have hj : set_bit.j0 (k + 1) q true = some (0, 0) := by simp only [set_bit.j0]; rw [if_pos trivial]
  by_cases a : q < 0
  · rw [if_pos a, hj]
  · rw [if_neg a, show (decide (q ≥ 81)) = true from decide_eq_true (by omega), hj]
theorem p64 {n : Nat} (h : n < 2 ^ 63) : n < 18446744073709551616 := Nat.lt_trans h (by decide)
theorem q64 {n : Nat} (h : n < 2 ^ 18) : n < 18446744073709551616 := Nat.lt_trans h (by decide)
theorem with_is (k : Nat) (s : Nat × Nat) (q : Int) (h : Good s) : set_Set_With.f (k + 1) (s.1 : Int) (s.2 : Int) q = some (((add s q).1 : Int), ((add s q).2 : Int)) := by
  unfold set_Set_With.f
  by_cases hq : 0 ≤ q ∧ q ≤ 80
  · obtain ⟨n, rfl⟩ : ∃ n : Nat, q = n := ⟨q.toNat, by omega⟩
    rw [bit_in k n (by omega)]
    simp only [Option.bind_some, set_Set_Or.f]
    unfold add
    rw [if_pos hq, bits_or_u64_nat _ _ (p64 h.1) (p64 (lo_lt n)), bits_or_u64_nat _ _ (q64 h.2) (q64 (hi_lt n (by omega)))]
    rfl
  · rw [bit_no k q (by omega)]
    simp only [Option.bind_some, set_Set_Or.f]
    unfold add
    rw [if_neg hq, show (0 : Int) = ((0 : Nat) : Int) from rfl, bits_or_u64_nat _ _ (p64 h.1) (by decide), bits_or_u64_nat _ _ (q64 h.2) (by decide), Nat.or_zero, Nat.or_zero]
theorem and_pow (a q : Nat) : (a &&& 2 ^ q == 0) = !a.testBit q := by
  cases h : a.testBit q
  · have : a &&& 2 ^ q = 0 := Nat.eq_of_testBit_eq fun i => by
      rw [Nat.testBit_and, Nat.testBit_two_pow, Nat.zero_testBit]
      by_cases e : q = i
      · rw [← e, h]; rfl
      · rw [decide_eq_false e, Bool.and_false]
    rw [this]; rfl
  · rw [Bool.not_true, beq_eq_false_iff_ne]
    intro h0
    have := congrArg (fun n => Nat.testBit n q) h0
    simp [Nat.testBit_and, Nat.testBit_two_pow_self, h] at this
theorem has_is (k : Nat) (s : Nat × Nat) (q : Nat) (h : Good s) (hq : q ≤ 80) : set_Set_Has.f (k + 1) (s.1 : Int) (s.2 : Int) (q : Int) = some (has s q) := by
  unfold set_Set_Has.f
  rw [bit_in k q hq]
  simp only [Option.bind_some, set_Set_And.f, set_Set_Empty.f]
  rw [bits_and_u64_nat _ _ (p64 h.1) (p64 (lo_lt q)), bits_and_u64_nat _ _ (q64 h.2) (q64 (hi_lt q hq))]
  unfold has lo hi
  have c : ∀ n : Nat, ((n : Int) == 0) = (n == 0) := fun n => by rw [Bool.eq_iff_iff, beq_iff_eq, beq_iff_eq]; omega
  by_cases h63 : q < 63
  · rw [if_pos h63, if_pos h63, if_pos h63, Nat.and_zero, c, and_pow]
    simp
  · rw [if_neg h63, if_neg h63, if_neg h63, Nat.and_zero, c, c, and_pow]
    simp
theorem has_no (k : Nat) (s : Nat × Nat) (q : Int) (h : Good s) (hq : q < 0 ∨ 80 < q) : set_Set_Has.f (k + 1) (s.1 : Int) (s.2 : Int) q = some false := by
  unfold set_Set_Has.f
  rw [bit_no k q hq]
  simp only [Option.bind_some, set_Set_And.f, set_Set_Empty.f]
  rw [show (0 : Int) = ((0 : Nat) : Int) from rfl, bits_and_u64_nat _ _ (p64 h.1) (by decide), bits_and_u64_nat _ _ (q64 h.2) (by decide), Nat.and_zero, Nat.and_zero]
  rfl

/-- The square that is so many files and ranks on, or -1. -/
def fromI (dx dy q : Int) : Int := if (0 ≤ q ∧ q ≤ 80 ∧ -8 ≤ dx ∧ dx ≤ 8 ∧ -8 ≤ dy ∧ dy ≤ 8) ∧ 0 ≤ q / 9 + dx ∧ q / 9 + dx ≤ 8 ∧ 0 ≤ q % 9 + dy ∧ q % 9 + dy ≤ 8 then 9 * (q / 9 + dx) + (q % 9 + dy) else -1
theorem from_is (dx dy q : Int) : step_Dir_From.f dx dy q = some (fromI dx dy q) := by
  unfold step_Dir_From.f fromI
  by_cases h1 : q < 0
  · rw [if_pos h1, if_neg (by omega)]
  rw [if_neg h1]
  by_cases h2 : q ≥ 81
  · rw [if_pos h2, if_neg (by omega)]
  rw [if_neg h2]
  by_cases h3 : dx < -8
  · rw [if_pos h3, if_neg (by omega)]
  rw [if_neg h3]
  by_cases h4 : dx > 8
  · rw [if_pos h4, if_neg (by omega)]
  rw [if_neg h4]
  by_cases h5 : dy < -8
  · rw [if_pos h5, if_neg (by omega)]
  rw [if_neg h5]
  by_cases h6 : dy > 8
  · rw [if_pos h6, if_neg (by omega)]
  rw [if_neg h6]
  unfold set_Square.f
  by_cases g1 : q / 9 + dx < 0
  · rw [if_pos g1, if_neg (by omega)]
  rw [if_neg g1]
  by_cases g2 : q / 9 + dx > 8
  · rw [if_pos g2, if_neg (by omega)]
  rw [if_neg g2]
  by_cases g3 : q % 9 + dy < 0
  · rw [if_pos g3, if_neg (by omega)]
  rw [if_neg g3]
  by_cases g4 : q % 9 + dy > 8
  · rw [if_pos g4, if_neg (by omega)]
  rw [if_neg g4, if_pos ⟨⟨by omega, by omega, by omega, by omega, by omega, by omega⟩, by omega, by omega, by omega, by omega⟩]
  have e1 : wrap64 (9 * (q / 9 + dx)) = 9 * (q / 9 + dx) := by unfold wrap64; omega
  rw [e1]
  have e2 : wrap64 (9 * (q / 9 + dx) + (q % 9 + dy)) = 9 * (q / 9 + dx) + (q % 9 + dy) := by unfold wrap64; omega
  rw [e2]
def turnI (side : Int) (d : S23) : Int × Int := if side = 1 then (-d.f0, -d.f1) else (d.f0, d.f1)
def stepFold (side q : Int) : List S23 → Nat × Nat → Nat × Nat
  | [], s => s
  | d :: l, s => stepFold side q l (add s (fromI (turnI side d).1 (turnI side d).2 q))
theorem fold_nil (side q : Int) (s : Nat × Nat) : stepFold side q [] s = s := rfl
theorem fold_cons (side q : Int) (d : S23) (l : List S23) (s : Nat × Nat) : stepFold side q (d :: l) s = stepFold side q l (add s (fromI (turnI side d).1 (turnI side d).2 q)) := rfl
theorem good_fold (side q : Int) (l : List S23) : ∀ s, Good s → Good (stepFold side q l s) := by
  induction l with
  | nil => intro s h; exact h
  | cons d l ih => intro s h; exact ih _ (good_add s _ h)
def small (l : List S23) : Bool := l.all fun d => decide (-8 ≤ d.f0) && decide (d.f0 ≤ 8) && decide (-8 ≤ d.f1) && decide (d.f1 ≤ 8)
theorem fold_is (p q side : Int) (kk : Nat) (hside : ∀ k, kk ≤ k → piece_Side.f k p = some side) (L : List S23) (hL : L.length ≤ 20) (hs : small L = true) : ∀ (d k i : Nat) (s : Nat × Nat), i ≤ L.length → L.length - i = d → d + kk + 5 < k → Good s →
    step_Of.l0 k p q L (L.length : Int) (i : Int) (s.1 : Int) (s.2 : Int) = some (((stepFold side q (L.drop i) s).1 : Int), ((stepFold side q (L.drop i) s).2 : Int)) := by
  intro d
  induction d with
  | zero =>
    intro k i s h1 h2 hk hg
    obtain ⟨k, rfl⟩ : ∃ m, k = m + 1 := ⟨k - 1, by omega⟩
    simp only [step_Of.l0]
    rw [if_neg (by omega), List.drop_eq_nil_of_le (by omega), fold_nil]
  | succ d ih =>
    intro k i s h1 h2 hk hg
    obtain ⟨k, rfl⟩ : ∃ m, k = m + 1 := ⟨k - 1, by omega⟩
    have hi : i < L.length := by omega
    have hrd : rd_T23 L (i : Int) = L[i] := by
      unfold rd_T23
      rw [Int.toNat_natCast, List.getD_eq_getElem?_getD, List.getElem?_eq_getElem hi]; rfl
    have hb := List.all_eq_true.1 hs L[i] (List.getElem_mem hi)
    simp only [Bool.and_eq_true, decide_eq_true_eq] at hb
    have ht : step_Dir_Turn.f (L[i]).f0 (L[i]).f1 side = some (turnI side L[i]) := by
      unfold step_Dir_Turn.f turnI
      by_cases h : side = 1
      · rw [if_pos h, if_pos h, show wrap64 (-(L[i]).f0) = -(L[i]).f0 by unfold wrap64; omega, show wrap64 (-(L[i]).f1) = -(L[i]).f1 by unfold wrap64; omega]
      · rw [if_neg h, if_neg h]
    simp only [step_Of.l0]
    obtain ⟨k', rfl⟩ : ∃ m, k = m + 1 := ⟨k - 1, by omega⟩
    rw [if_pos (by omega), if_pos (by omega), if_pos (by omega), hside (k' + 1) (by omega)]
    simp only [Option.bind_some]
    rw [hrd, ht]
    simp only [Option.bind_some]
    rw [from_is]
    simp only [Option.bind_some]
    have hw : wrap64 ((i : Int) + 1) = ((i + 1 : Nat) : Int) := by clear ih hside ht hrd hb hs; unfold wrap64; omega
    have hz := ih (k' + 1) (i + 1) (add s (fromI (turnI side L[i]).1 (turnI side L[i]).2 q)) (by omega) (by omega) (by omega) (good_add s _ hg)
    rw [with_is k' s _ hg, Option.bind_some]
    dsimp only
    rw [hw, hz, List.drop_eq_getElem_cons hi, fold_cons]

def kindT (p : Int) : Nat := if 1 ≤ p ∧ p ≤ 15 ∧ p ≠ 13 then p.toNat else if 17 ≤ p ∧ p ≤ 31 ∧ p ≠ 29 then p.toNat - 16 else 0
def sideT (p : Int) : Int := if kindT p = 0 then -1 else if p < 16 then 0 else 1
theorem kindT_le (p : Int) : kindT p ≤ 15 := by
  unfold kindT; repeat' split
  all_goals omega
def okPiece (p : Int) : Bool := piece_Kind.f 5 p == some ((kindT p : Nat) : Int) && piece_Side.f 5 p == some (sideT p)
theorem piece_is (p : Int) (hp : (Lit.int .i8 p).wf = true) : (∀ k, 5 ≤ k → piece_Kind.f k p = some ((kindT p : Nat) : Int)) ∧ (∀ k, 5 ≤ k → piece_Side.f k p = some (sideT p)) := by
  have h := all_i8 okPiece (by decide +kernel) p hp
  unfold okPiece at h
  rw [Bool.and_eq_true, beq_iff_eq, beq_iff_eq] at h
  exact ⟨fun k hk => at_rounds (g := fun k => piece_Kind.f k p) (fun k => piece_Kind.mono p k) hk h.1, fun k hk => at_rounds (g := fun k => piece_Side.f k p) (fun k => piece_Side.mono p k) hk h.2⟩
def dirsT (kind : Nat) : List S23 :=
  match kind with
  | 1 => [⟨0, -1⟩]
  | 3 => [⟨-1, -2⟩, ⟨1, -2⟩]
  | 4 => [⟨-1, -1⟩, ⟨0, -1⟩, ⟨1, -1⟩, ⟨-1, 1⟩, ⟨1, 1⟩]
  | 5 | 9 | 10 | 11 | 12 => [⟨-1, -1⟩, ⟨0, -1⟩, ⟨1, -1⟩, ⟨-1, 0⟩, ⟨1, 0⟩, ⟨0, 1⟩]
  | 8 => [⟨-1, -1⟩, ⟨0, -1⟩, ⟨1, -1⟩, ⟨-1, 0⟩, ⟨1, 0⟩, ⟨0, 1⟩, ⟨-1, 1⟩, ⟨1, 1⟩]
  | 14 => [⟨0, -1⟩, ⟨-1, 0⟩, ⟨1, 0⟩, ⟨0, 1⟩]
  | 15 => [⟨-1, -1⟩, ⟨1, -1⟩, ⟨-1, 1⟩, ⟨1, 1⟩]
  | _ => []
theorem dirs_is (kind : Nat) (h : kind ≤ 15) (k : Nat) (hk : 10 ≤ k) : step_Dirs.f k (kind : Int) = some (dirsT kind) := by
  refine at_rounds (g := fun k => step_Dirs.f k (kind : Int)) (fun k => step_Dirs.mono _ k) hk ?_
  obtain rfl | rfl | rfl | rfl | rfl | rfl | rfl | rfl | rfl | rfl | rfl | rfl | rfl | rfl | rfl | rfl : kind = 0 ∨ kind = 1 ∨ kind = 2 ∨ kind = 3 ∨ kind = 4 ∨ kind = 5 ∨ kind = 6 ∨ kind = 7 ∨ kind = 8 ∨ kind = 9 ∨ kind = 10 ∨ kind = 11 ∨ kind = 12 ∨ kind = 13 ∨ kind = 14 ∨ kind = 15 := by omega
  all_goals kernel_rfl
theorem dirs_small (kind : Nat) (h : kind ≤ 15) : (dirsT kind).length ≤ 20 ∧ small (dirsT kind) = true := by
  obtain rfl | rfl | rfl | rfl | rfl | rfl | rfl | rfl | rfl | rfl | rfl | rfl | rfl | rfl | rfl | rfl : kind = 0 ∨ kind = 1 ∨ kind = 2 ∨ kind = 3 ∨ kind = 4 ∨ kind = 5 ∨ kind = 6 ∨ kind = 7 ∨ kind = 8 ∨ kind = 9 ∨ kind = 10 ∨ kind = 11 ∨ kind = 12 ∨ kind = 13 ∨ kind = 14 ∨ kind = 15 := by omega
  all_goals exact ⟨by decide, by decide⟩
def stepN (kind : Nat) (side q : Int) : Nat × Nat := stepFold side q (dirsT kind) (0, 0)
theorem good_step (kind : Nat) (side q : Int) : Good (stepN kind side q) := good_fold _ _ _ _ good0
theorem step_is (p q : Int) (hp : (Lit.int .i8 p).wf = true) (k : Nat) (hk : 60 ≤ k) : step_Of.f k p q = some (((stepN (kindT p) (sideT p) q).1 : Int), ((stepN (kindT p) (sideT p) q).2 : Int)) := by
  obtain ⟨h1, h2⟩ := piece_is p hp
  obtain ⟨d1, d2⟩ := dirs_small (kindT p) (kindT_le p)
  unfold step_Of.f
  rw [h1 k (by omega)]
  simp only [Option.bind_some]
  rw [dirs_is (kindT p) (kindT_le p) k (by omega)]
  simp only [Option.bind_some]
  have := fold_is p q (sideT p) 5 h2 (dirsT (kindT p)) d1 d2 (dirsT (kindT p)).length k 0 (0, 0) (by omega) (by omega) (by omega) good0
  rw [List.drop_zero] at this
  exact this

/-- What the law asks of the four sets. -/
def ends (x1 : Int) (K G S E : Nat × Nat) : Option Bool :=
  (set_Set_Or.f G.1 G.2 S.1 S.2).bind fun b => if x1 = 3 then ((set_Set_And.f E.1 E.2 K.1 K.2).bind fun c => ((set_Set_Empty.f c.1 c.2).bind fun t => (if t = true then ((set_Set_Count.f E.1 E.2).bind fun n => (if n ≤ 2 then (some ((K.1 : Int) == b.1 && ((K.2 : Int) == b.2))) else (some false))) else (some false)))) else (if ((K.1 : Int) == b.1 && ((K.2 : Int) == b.2)) = true then ((set_Set_Minus.f E.1 E.2 K.1 K.2).bind fun c => ((set_Set_Empty.f c.1 c.2).bind fun t => (some t))) else (some false))
def setOf (p q : Int) : Nat × Nat := stepN (kindT p) (sideT p) q
def ask (side kind : Nat) (q : Nat) : Bool := ends kind (setOf (16 * side + 8) q) (setOf (16 * side + 5) q) (setOf (16 * side + 4) q) (setOf (16 * side + kind) q) == some true
def askK (side kind : Nat) : Bool := (List.range 81).all fun q => ask side kind q
theorem ask0_1 : askK 0 1 = true := by decide +kernel
theorem ask0_2 : askK 0 2 = true := by decide +kernel
theorem ask0_3 : askK 0 3 = true := by decide +kernel
theorem ask0_4 : askK 0 4 = true := by decide +kernel
theorem ask0_5 : askK 0 5 = true := by decide +kernel
theorem ask0_6 : askK 0 6 = true := by decide +kernel
theorem ask0_7 : askK 0 7 = true := by decide +kernel
theorem ask0_8 : askK 0 8 = true := by decide +kernel
theorem ask0_9 : askK 0 9 = true := by decide +kernel
theorem ask0_10 : askK 0 10 = true := by decide +kernel
theorem ask0_11 : askK 0 11 = true := by decide +kernel
theorem ask0_12 : askK 0 12 = true := by decide +kernel
theorem ask0_13 : askK 0 13 = true := by decide +kernel
theorem ask0_14 : askK 0 14 = true := by decide +kernel
theorem ask0_15 : askK 0 15 = true := by decide +kernel
theorem ask1_1 : askK 1 1 = true := by decide +kernel
theorem ask1_2 : askK 1 2 = true := by decide +kernel
theorem ask1_3 : askK 1 3 = true := by decide +kernel
theorem ask1_4 : askK 1 4 = true := by decide +kernel
theorem ask1_5 : askK 1 5 = true := by decide +kernel
theorem ask1_6 : askK 1 6 = true := by decide +kernel
theorem ask1_7 : askK 1 7 = true := by decide +kernel
theorem ask1_8 : askK 1 8 = true := by decide +kernel
theorem ask1_9 : askK 1 9 = true := by decide +kernel
theorem ask1_10 : askK 1 10 = true := by decide +kernel
theorem ask1_11 : askK 1 11 = true := by decide +kernel
theorem ask1_12 : askK 1 12 = true := by decide +kernel
theorem ask1_13 : askK 1 13 = true := by decide +kernel
theorem ask1_14 : askK 1 14 = true := by decide +kernel
theorem ask1_15 : askK 1 15 = true := by decide +kernel
theorem ask_all (side kind : Nat) (h : side ≤ 1) (h1 : 1 ≤ kind) (h2 : kind ≤ 15) : askK side kind = true := by
  obtain rfl | rfl : side = 0 ∨ side = 1 := by omega
  · obtain rfl | rfl | rfl | rfl | rfl | rfl | rfl | rfl | rfl | rfl | rfl | rfl | rfl | rfl | rfl : kind = 1 ∨ kind = 2 ∨ kind = 3 ∨ kind = 4 ∨ kind = 5 ∨ kind = 6 ∨ kind = 7 ∨ kind = 8 ∨ kind = 9 ∨ kind = 10 ∨ kind = 11 ∨ kind = 12 ∨ kind = 13 ∨ kind = 14 ∨ kind = 15 := by omega
    · exact ask0_1
    · exact ask0_2
    · exact ask0_3
    · exact ask0_4
    · exact ask0_5
    · exact ask0_6
    · exact ask0_7
    · exact ask0_8
    · exact ask0_9
    · exact ask0_10
    · exact ask0_11
    · exact ask0_12
    · exact ask0_13
    · exact ask0_14
    · exact ask0_15
  · obtain rfl | rfl | rfl | rfl | rfl | rfl | rfl | rfl | rfl | rfl | rfl | rfl | rfl | rfl | rfl : kind = 1 ∨ kind = 2 ∨ kind = 3 ∨ kind = 4 ∨ kind = 5 ∨ kind = 6 ∨ kind = 7 ∨ kind = 8 ∨ kind = 9 ∨ kind = 10 ∨ kind = 11 ∨ kind = 12 ∨ kind = 13 ∨ kind = 14 ∨ kind = 15 := by omega
    · exact ask1_1
    · exact ask1_2
    · exact ask1_3
    · exact ask1_4
    · exact ask1_5
    · exact ask1_6
    · exact ask1_7
    · exact ask1_8
    · exact ask1_9
    · exact ask1_10
    · exact ask1_11
    · exact ask1_12
    · exact ask1_13
    · exact ask1_14
    · exact ask1_15
theorem i8_of (side kind : Nat) (h : side ≤ 1) (h2 : kind ≤ 15) : IntKind.i8.wrap (wrap64 ((wrap64 (16 * (side : Int))) + (kind : Int))) = 16 * (side : Int) + (kind : Int) := by
  have : ∀ s, s ≤ 1 → ∀ c, c ≤ 15 → IntKind.i8.wrap (wrap64 ((wrap64 (16 * ((s : Nat) : Int))) + ((c : Nat) : Int))) = 16 * ((s : Nat) : Int) + ((c : Nat) : Int) := by decide +kernel
  exact this side h kind h2
theorem wf_of (side kind : Nat) (h : side ≤ 1) (h2 : kind ≤ 15) : (Lit.int .i8 (16 * (side : Int) + (kind : Int))).wf = true := by
  have : ∀ s, s ≤ 1 → ∀ c, c ≤ 15 → (Lit.int .i8 (16 * ((s : Nat) : Int) + ((c : Nat) : Int))).wf = true := by decide +kernel
  exact this side h kind h2
theorem inside (side kind q : Nat) (h : side ≤ 1) (h1 : 1 ≤ kind) (h2 : kind ≤ 15) (hq : q < 81) : kakugyolaw03_StepKings.j0 100 (side : Int) (kind : Int) (q : Int) false = some true := by
  have e8 := i8_of side 8 h (by omega)
  have e5 := i8_of side 5 h (by omega)
  have e4 := i8_of side 4 h (by omega)
  have ek := i8_of side kind h h2
  have s8 := step_is _ (q : Int) (wf_of side 8 h (by omega)) 99 (by omega)
  have s5 := step_is _ (q : Int) (wf_of side 5 h (by omega)) 99 (by omega)
  have s4 := step_is _ (q : Int) (wf_of side 4 h (by omega)) 99 (by omega)
  have sk := step_is _ (q : Int) (wf_of side kind h h2) 99 (by omega)
  show kakugyolaw03_StepKings.j0 (99 + 1) _ _ _ _ = _
  simp only [kakugyolaw03_StepKings.j0]
  rw [if_neg (by decide)]
  have e8' : IntKind.i8.wrap (wrap64 ((wrap64 (16 * (side : Int))) + 8)) = 16 * (side : Int) + ((8 : Nat) : Int) := e8
  have e5' : IntKind.i8.wrap (wrap64 ((wrap64 (16 * (side : Int))) + 5)) = 16 * (side : Int) + ((5 : Nat) : Int) := e5
  have e4' : IntKind.i8.wrap (wrap64 ((wrap64 (16 * (side : Int))) + 4)) = 16 * (side : Int) + ((4 : Nat) : Int) := e4
  rw [e8', e5', e4', ek, s8, s5, s4, sk]
  simp only [Option.bind_some]
  have ha := List.all_eq_true.1 (ask_all side kind h h1 h2) q (List.mem_range.2 hq)
  unfold ask at ha
  rw [beq_iff_eq] at ha
  exact ha
theorem StepKings : kakugyolaw03_StepKings.Pure := by
  intro a0 a1 a2 _ _ _
  refine ⟨100, ?_⟩
  have hn : kakugyolaw03_steps.f 100 = some true := by decide +kernel
  have hj : ∀ x y z, kakugyolaw03_StepKings.j0 100 x y z true = some true := by
    intro x y z
    show kakugyolaw03_StepKings.j0 (99 + 1) _ _ _ _ = _
    simp only [kakugyolaw03_StepKings.j0]
    rw [if_pos trivial]
  have hin : (a0 = 0 ∨ a0 = 1) → (if a1 < 1 then (kakugyolaw03_StepKings.j0 100 a0 a1 a2 true) else (if a1 > 15 then (kakugyolaw03_StepKings.j0 100 a0 a1 a2 true) else (if a2 < 0 then (kakugyolaw03_StepKings.j0 100 a0 a1 a2 true) else (kakugyolaw03_StepKings.j0 100 a0 a1 a2 (decide (a2 > 80)))))) = some true := by
    intro h0
    by_cases g1 : a1 < 1
    · rw [if_pos g1, hj]
    rw [if_neg g1]
    by_cases g2 : a1 > 15
    · rw [if_pos g2, hj]
    rw [if_neg g2]
    by_cases g3 : a2 < 0
    · rw [if_pos g3, hj]
    rw [if_neg g3]
    by_cases g4 : a2 > 80
    · rw [decide_eq_true g4, hj]
    rw [decide_eq_false g4]
    obtain ⟨s, rfl⟩ : ∃ n : Nat, a0 = n := ⟨a0.toNat, by omega⟩
    obtain ⟨c, rfl⟩ : ∃ n : Nat, a1 = n := ⟨a1.toNat, by omega⟩
    obtain ⟨q, rfl⟩ : ∃ n : Nat, a2 = n := ⟨a2.toNat, by omega⟩
    exact inside s c q (by omega) (by omega) (by omega) (by omega)
  unfold kakugyolaw03_StepKings.f
  rw [hn]
  simp only [Option.bind_some, if_true]
  by_cases h0 : a0 = 0
  · rw [if_pos h0]; exact hin (.inl h0)
  rw [if_neg h0]
  by_cases h1 : a0 = 1
  · rw [if_pos h1]; exact hin (.inr h1)
  rw [if_neg h1, hj]

end Go.Proofs.Ytmoeodcmfjnihaa.Pure
