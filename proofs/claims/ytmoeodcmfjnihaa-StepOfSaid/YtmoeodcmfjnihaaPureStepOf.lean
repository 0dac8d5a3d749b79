/- For every int8 and every number the law StepOf answers true: kinds, sides, squares and the squares to which they go one by one, over sets as two natural numbers. -/
import Derived.Test.YtmoeodcmfjnihaaPax10
import Derived.Test.YtmoeodcmfjnihaaPax9
import Derived.Test.YtmoeodcmfjnihaaPax4
import Derived.Test.YtmoeodcmfjnihaaPax6
import Derived.Laws.Bits64b
import Derived.OpenShut
namespace Go.Proofs.Ytmoeodcmfjnihaa.Pure
open Go.RowKit Go.Proofs.Ytmoeodcmfjnihaa.Pa Go.Proofs.YtmoeodcmfjnihaaW.PrintWords Go.Proofs.YtmoeodcmfjnihaaW.PrintLast Go.Proofs.YtmoeodcmfjnihaaW.PrintMore
set_option linter.unusedVariables false
set_option linter.unusedSimpArgs false

theorem all_i8 (P : Int → Bool) (h : (List.range 256).all (fun n => P ((n : Int) - 128)) = true) (a : Int) (ha : (Lit.int .i8 a).wf = true) : P a = true := by
  have hb := bounds_i8 ha
  have := List.all_eq_true.1 h (a + 128).toNat (List.mem_range.2 (by omega))
  rw [show (((a + 128).toNat : Nat) : Int) - 128 = a by omega] at this
  exact this
theorem all_to (m : Nat) (P : Int → Bool) (h : (List.range m).all (fun n => P (n : Int)) = true) (a : Int) (h0 : 0 ≤ a) (h1 : a < m) : P a = true := by
  have := List.all_eq_true.1 h a.toNat (List.mem_range.2 (by omega))
  rw [show ((a.toNat : Nat) : Int) = a by omega] at this
  exact this
theorem of_beq_some {o : Option Bool} (h : (o == some true) = true) : o = some true := by simpa using h

def lo (q : Nat) : Nat := if q < 63 then 2 ^ q else 0
def hi (q : Nat) : Nat := if q < 63 then 0 else 2 ^ (q - 63)
def add (s : Nat × Nat) (q : Int) : Nat × Nat := if 0 ≤ q ∧ q ≤ 80 then (s.1 ||| lo q.toNat, s.2 ||| hi q.toNat) else s
def has (s : Nat × Nat) (q : Nat) : Bool := if q < 63 then s.1.testBit q else s.2.testBit (q - 63)
def Good (s : Nat × Nat) : Prop := s.1 < 2 ^ 63 ∧ s.2 < 2 ^ 18
theorem good0 : Good (0, 0) := by unfold Good; decide
theorem lo_lt (q : Nat) : lo q < 2 ^ 63 := by
  unfold lo; split
  · exact Nat.pow_lt_pow_right (by omega) (by assumption)
  · decide
theorem hi_lt (q : Nat) (h : q ≤ 80) : hi q < 2 ^ 18 := by
  unfold hi; split
  · decide
  · exact Nat.pow_lt_pow_right (by omega) (by omega)
theorem good_add (s : Nat × Nat) (q : Int) (h : Good s) : Good (add s q) := by
  unfold add; split
  · exact ⟨Nat.or_lt_two_pow h.1 (lo_lt _), Nat.or_lt_two_pow h.2 (hi_lt _ (by omega))⟩
  · exact h
theorem shl_one (q : Nat) (h : q < 64) : shl .u64 1 (q : Int) = ((2 ^ q : Nat) : Int) := by
  have hp : ∀ q, q < 64 → (IntKind.u64.wrap (1 * 2 ^ min ((q : Nat) : Int).toNat IntKind.u64.bits)) = ((2 ^ q : Nat) : Int) := by decide +kernel
  exact hp q h
theorem bit_in (k q : Nat) (h : q ≤ 80) : set_bit.f (k + 1) (q : Int) = some (((lo q : Nat) : Int), ((hi q : Nat) : Int)) := by
  unfold set_bit.f
  rw [if_neg (by omega), show (decide ((q : Int) ≥ 81)) = false from decide_eq_false (by omega)]
  simp only [set_bit.j0]
  rw [if_neg (by decide)]
  unfold lo hi
  by_cases h63 : q < 63
  · rw [if_pos (by omega), if_pos (by omega), shl_one q (by omega), if_pos h63, if_pos h63]; rfl
  · have e : wrap64 ((q : Int) - 63) = ((q - 63 : Nat) : Int) := by unfold wrap64; omega
    rw [if_neg (by omega), e, if_pos (by omega), shl_one (q - 63) (by omega), if_neg h63, if_neg h63]; rfl
theorem bit_no (k : Nat) (q : Int) (h : q < 0 ∨ 80 < q) : set_bit.f (k + 1) q = some (0, 0) := by
  unfold set_bit.f
  have hj : set_bit.j0 (k + 1) q true = some (0, 0) := by simp only [set_bit.j0]; rw [if_pos trivial]
  by_cases a : q < 0
  · rw [if_pos a, hj]
  · rw [if_neg a, show (decide (q ≥ 81)) = true from decide_eq_true (by omega), hj]
theorem p64 {n : Nat} (h : n < 2 ^ 63) : n < 18446744073709551616 := Nat.lt_trans h (by decide)
theorem q64 {n : Nat} (h : n < 2 ^ 18) : n < 18446744073709551616 := Nat.lt_trans h (by decide)
theorem with_is (k : Nat) (s : Nat × Nat) (q : Int) (h : Good s) : set_Set_With.f (k + 1) (s.1 : Int) (s.2 : Int) q = some (((add s q).1 : Int), ((add s q).2 : Int)) := by
  unfold set_Set_With.f
  by_cases hq : 0 ≤ q ∧ q ≤ 80
  · obtain ⟨n, rfl⟩ : ∃ n : Nat, q = n := ⟨q.toNat, by omega⟩
    rw [bit_in k n (by omega)]
    simp only [Option.bind_some, set_Set_Or.f]
    unfold add
    rw [if_pos hq, bits_or_u64_nat _ _ (p64 h.1) (p64 (lo_lt n)), bits_or_u64_nat _ _ (q64 h.2) (q64 (hi_lt n (by omega)))]
    rfl
  · rw [bit_no k q (by omega)]
    simp only [Option.bind_some, set_Set_Or.f]
    unfold add
    rw [if_neg hq, show (0 : Int) = ((0 : Nat) : Int) from rfl, bits_or_u64_nat _ _ (p64 h.1) (by decide), bits_or_u64_nat _ _ (q64 h.2) (by decide), Nat.or_zero, Nat.or_zero]
theorem and_pow (a q : Nat) : (a &&& 2 ^ q == 0) = !a.testBit q := by
  cases h : a.testBit q
  · have : a &&& 2 ^ q = 0 := Nat.eq_of_testBit_eq fun i => by
      rw [Nat.testBit_and, Nat.testBit_two_pow, Nat.zero_testBit]
      by_cases e : q = i
      · rw [← e, h]; rfl
      · rw [decide_eq_false e, Bool.and_false]
    rw [this]; rfl
  · rw [Bool.not_true, beq_eq_false_iff_ne]
    intro h0
    have := congrArg (fun n => Nat.testBit n q) h0
    simp [Nat.testBit_and, Nat.testBit_two_pow_self, h] at this
theorem has_is (k : Nat) (s : Nat × Nat) (q : Nat) (h : Good s) (hq : q ≤ 80) : set_Set_Has.f (k + 1) (s.1 : Int) (s.2 : Int) (q : Int) = some (has s q) := by
  unfold set_Set_Has.f
  rw [bit_in k q hq]
  simp only [Option.bind_some, set_Set_And.f, set_Set_Empty.f]
  rw [bits_and_u64_nat _ _ (p64 h.1) (p64 (lo_lt q)), bits_and_u64_nat _ _ (q64 h.2) (q64 (hi_lt q hq))]
  unfold has lo hi
  have c : ∀ n : Nat, ((n : Int) == 0) = (n == 0) := fun n => by rw [Bool.eq_iff_iff, beq_iff_eq, beq_iff_eq]; omega
  by_cases h63 : q < 63
  · rw [if_pos h63, if_pos h63, if_pos h63, Nat.and_zero, c, and_pow]
    simp
  · rw [if_neg h63, if_neg h63, if_neg h63, Nat.and_zero, c, c, and_pow]
    simp
theorem has_no (k : Nat) (s : Nat × Nat) (q : Int) (h : Good s) (hq : q < 0 ∨ 80 < q) : set_Set_Has.f (k + 1) (s.1 : Int) (s.2 : Int) q = some false := by
  unfold set_Set_Has.f
  rw [bit_no k q hq]
  simp only [Option.bind_some, set_Set_And.f, set_Set_Empty.f]
  rw [show (0 : Int) = ((0 : Nat) : Int) from rfl, bits_and_u64_nat _ _ (p64 h.1) (by decide), bits_and_u64_nat _ _ (q64 h.2) (by decide), Nat.and_zero, Nat.and_zero]
  rfl

/-- The square that is so many files and ranks on, or -1. -/
def fromI (dx dy q : Int) : Int := if (0 ≤ q ∧ q ≤ 80 ∧ -8 ≤ dx ∧ dx ≤ 8 ∧ -8 ≤ dy ∧ dy ≤ 8) ∧ 0 ≤ q / 9 + dx ∧ q / 9 + dx ≤ 8 ∧ 0 ≤ q % 9 + dy ∧ q % 9 + dy ≤ 8 then 9 * (q / 9 + dx) + (q % 9 + dy) else -1
theorem from_is (dx dy q : Int) : step_Dir_From.f dx dy q = some (fromI dx dy q) := by
  unfold step_Dir_From.f fromI
  by_cases h1 : q < 0
  · rw [if_pos h1, if_neg (by omega)]
  rw [if_neg h1]
  by_cases h2 : q ≥ 81
  · rw [if_pos h2, if_neg (by omega)]
  rw [if_neg h2]
  by_cases h3 : dx < -8
  · rw [if_pos h3, if_neg (by omega)]
  rw [if_neg h3]
  by_cases h4 : dx > 8
  · rw [if_pos h4, if_neg (by omega)]
  rw [if_neg h4]
  by_cases h5 : dy < -8
  · rw [if_pos h5, if_neg (by omega)]
  rw [if_neg h5]
  by_cases h6 : dy > 8
  · rw [if_pos h6, if_neg (by omega)]
  rw [if_neg h6]
  unfold set_Square.f
  by_cases g1 : q / 9 + dx < 0
  · rw [if_pos g1, if_neg (by omega)]
  rw [if_neg g1]
  by_cases g2 : q / 9 + dx > 8
  · rw [if_pos g2, if_neg (by omega)]
  rw [if_neg g2]
  by_cases g3 : q % 9 + dy < 0
  · rw [if_pos g3, if_neg (by omega)]
  rw [if_neg g3]
  by_cases g4 : q % 9 + dy > 8
  · rw [if_pos g4, if_neg (by omega)]
  rw [if_neg g4, if_pos ⟨⟨by omega, by omega, by omega, by omega, by omega, by omega⟩, by omega, by omega, by omega, by omega⟩]
  have e1 : wrap64 (9 * (q / 9 + dx)) = 9 * (q / 9 + dx) := by unfold wrap64; omega
  rw [e1]
  have e2 : wrap64 (9 * (q / 9 + dx) + (q % 9 + dy)) = 9 * (q / 9 + dx) + (q % 9 + dy) := by unfold wrap64; omega
  rw [e2]
def turnI (side : Int) (d : S23) : Int × Int := if side = 1 then (-d.f0, -d.f1) else (d.f0, d.f1)
def stepFold (side q : Int) : List S23 → Nat × Nat → Nat × Nat
  | [], s => s
  | d :: l, s => stepFold side q l (add s (fromI (turnI side d).1 (turnI side d).2 q))
theorem fold_nil (side q : Int) (s : Nat × Nat) : stepFold side q [] s = s := rfl
theorem fold_cons (side q : Int) (d : S23) (l : List S23) (s : Nat × Nat) : stepFold side q (d :: l) s = stepFold side q l (add s (fromI (turnI side d).1 (turnI side d).2 q)) := rfl
theorem good_fold (side q : Int) (l : List S23) : ∀ s, Good s → Good (stepFold side q l s) := by
  induction l with
  | nil => intro s h; exact h
  | cons d l ih => intro s h; exact ih _ (good_add s _ h)
def small (l : List S23) : Bool := l.all fun d => decide (-8 ≤ d.f0) && decide (d.f0 ≤ 8) && decide (-8 ≤ d.f1) && decide (d.f1 ≤ 8)
theorem fold_is (p q side : Int) (kk : Nat) (hside : ∀ k, kk ≤ k → piece_Side.f k p = some side) (L : List S23) (hL : L.length ≤ 20) (hs : small L = true) : ∀ (d k i : Nat) (s : Nat × Nat), i ≤ L.length → L.length - i = d → d + kk + 5 < k → Good s →
    step_Of.l0 k p q L (L.length : Int) (i : Int) (s.1 : Int) (s.2 : Int) = some (((stepFold side q (L.drop i) s).1 : Int), ((stepFold side q (L.drop i) s).2 : Int)) := by
  intro d
  induction d with
  | zero =>
    intro k i s h1 h2 hk hg
    obtain ⟨k, rfl⟩ : ∃ m, k = m + 1 := ⟨k - 1, by omega⟩
    simp only [step_Of.l0]
    rw [if_neg (by omega), List.drop_eq_nil_of_le (by omega), fold_nil]
  | succ d ih =>
    intro k i s h1 h2 hk hg
    obtain ⟨k, rfl⟩ : ∃ m, k = m + 1 := ⟨k - 1, by omega⟩
    have hi : i < L.length := by omega
    have hrd : rd_T23 L (i : Int) = L[i] := by
      unfold rd_T23
      rw [Int.toNat_natCast, List.getD_eq_getElem?_getD, List.getElem?_eq_getElem hi]; rfl
    have hb := List.all_eq_true.1 hs L[i] (List.getElem_mem hi)
    simp only [Bool.and_eq_true, decide_eq_true_eq] at hb
    have ht : step_Dir_Turn.f (L[i]).f0 (L[i]).f1 side = some (turnI side L[i]) := by
      unfold step_Dir_Turn.f turnI
      by_cases h : side = 1
      · rw [if_pos h, if_pos h, show wrap64 (-(L[i]).f0) = -(L[i]).f0 by unfold wrap64; omega, show wrap64 (-(L[i]).f1) = -(L[i]).f1 by unfold wrap64; omega]
      · rw [if_neg h, if_neg h]
    simp only [step_Of.l0]
    obtain ⟨k', rfl⟩ : ∃ m, k = m + 1 := ⟨k - 1, by omega⟩
    rw [if_pos (by omega), if_pos (by omega), if_pos (by omega), hside (k' + 1) (by omega)]
    simp only [Option.bind_some]
    rw [hrd, ht]
    simp only [Option.bind_some]
    rw [from_is]
    simp only [Option.bind_some]
    have hw : wrap64 ((i : Int) + 1) = ((i + 1 : Nat) : Int) := by clear ih hside ht hrd hb hs; unfold wrap64; omega
    have hz := ih (k' + 1) (i + 1) (add s (fromI (turnI side L[i]).1 (turnI side L[i]).2 q)) (by omega) (by omega) (by omega) (good_add s _ hg)
    rw [with_is k' s _ hg, Option.bind_some]
    dsimp only
    rw [hw, hz, List.drop_eq_getElem_cons hi, fold_cons]

def kindT (p : Int) : Nat := if 1 ≤ p ∧ p ≤ 15 ∧ p ≠ 13 then p.toNat else if 17 ≤ p ∧ p ≤ 31 ∧ p ≠ 29 then p.toNat - 16 else 0
def sideT (p : Int) : Int := if kindT p = 0 then -1 else if p < 16 then 0 else 1
theorem kindT_le (p : Int) : kindT p ≤ 15 := by
  unfold kindT; repeat' split
  all_goals omega
def okPiece (p : Int) : Bool := piece_Kind.f 5 p == some ((kindT p : Nat) : Int) && piece_Side.f 5 p == some (sideT p)
theorem piece_is (p : Int) (hp : (Lit.int .i8 p).wf = true) : (∀ k, 5 ≤ k → piece_Kind.f k p = some ((kindT p : Nat) : Int)) ∧ (∀ k, 5 ≤ k → piece_Side.f k p = some (sideT p)) := by
  have h := all_i8 okPiece (by decide +kernel) p hp
  unfold okPiece at h
  rw [Bool.and_eq_true, beq_iff_eq, beq_iff_eq] at h
  exact ⟨fun k hk => at_rounds (g := fun k => piece_Kind.f k p) (fun k => piece_Kind.mono p k) hk h.1, fun k hk => at_rounds (g := fun k => piece_Side.f k p) (fun k => piece_Side.mono p k) hk h.2⟩
def dirsT (kind : Nat) : List S23 :=
  match kind with
  | 1 => [⟨0, -1⟩]
  | 3 => [⟨-1, -2⟩, ⟨1, -2⟩]
  | 4 => [⟨-1, -1⟩, ⟨0, -1⟩, ⟨1, -1⟩, ⟨-1, 1⟩, ⟨1, 1⟩]
  | 5 | 9 | 10 | 11 | 12 => [⟨-1, -1⟩, ⟨0, -1⟩, ⟨1, -1⟩, ⟨-1, 0⟩, ⟨1, 0⟩, ⟨0, 1⟩]
  | 8 => [⟨-1, -1⟩, ⟨0, -1⟩, ⟨1, -1⟩, ⟨-1, 0⟩, ⟨1, 0⟩, ⟨0, 1⟩, ⟨-1, 1⟩, ⟨1, 1⟩]
  | 14 => [⟨0, -1⟩, ⟨-1, 0⟩, ⟨1, 0⟩, ⟨0, 1⟩]
  | 15 => [⟨-1, -1⟩, ⟨1, -1⟩, ⟨-1, 1⟩, ⟨1, 1⟩]
  | _ => []
theorem dirs_is (kind : Nat) (h : kind ≤ 15) (k : Nat) (hk : 10 ≤ k) : step_Dirs.f k (kind : Int) = some (dirsT kind) := by
  refine at_rounds (g := fun k => step_Dirs.f k (kind : Int)) (fun k => step_Dirs.mono _ k) hk ?_
  obtain rfl | rfl | rfl | rfl | rfl | rfl | rfl | rfl | rfl | rfl | rfl | rfl | rfl | rfl | rfl | rfl : kind = 0 ∨ kind = 1 ∨ kind = 2 ∨ kind = 3 ∨ kind = 4 ∨ kind = 5 ∨ kind = 6 ∨ kind = 7 ∨ kind = 8 ∨ kind = 9 ∨ kind = 10 ∨ kind = 11 ∨ kind = 12 ∨ kind = 13 ∨ kind = 14 ∨ kind = 15 := by omega
  all_goals kernel_rfl
theorem dirs_small (kind : Nat) (h : kind ≤ 15) : (dirsT kind).length ≤ 20 ∧ small (dirsT kind) = true := by
  obtain rfl | rfl | rfl | rfl | rfl | rfl | rfl | rfl | rfl | rfl | rfl | rfl | rfl | rfl | rfl | rfl : kind = 0 ∨ kind = 1 ∨ kind = 2 ∨ kind = 3 ∨ kind = 4 ∨ kind = 5 ∨ kind = 6 ∨ kind = 7 ∨ kind = 8 ∨ kind = 9 ∨ kind = 10 ∨ kind = 11 ∨ kind = 12 ∨ kind = 13 ∨ kind = 14 ∨ kind = 15 := by omega
  all_goals exact ⟨by decide, by decide⟩
def stepN (kind : Nat) (side q : Int) : Nat × Nat := stepFold side q (dirsT kind) (0, 0)
theorem good_step (kind : Nat) (side q : Int) : Good (stepN kind side q) := good_fold _ _ _ _ good0
theorem step_is (p q : Int) (hp : (Lit.int .i8 p).wf = true) (k : Nat) (hk : 60 ≤ k) : step_Of.f k p q = some (((stepN (kindT p) (sideT p) q).1 : Int), ((stepN (kindT p) (sideT p) q).2 : Int)) := by
  obtain ⟨h1, h2⟩ := piece_is p hp
  obtain ⟨d1, d2⟩ := dirs_small (kindT p) (kindT_le p)
  unfold step_Of.f
  rw [h1 k (by omega)]
  simp only [Option.bind_some]
  rw [dirs_is (kindT p) (kindT_le p) k (by omega)]
  simp only [Option.bind_some]
  have := fold_is p q (sideT p) 5 h2 (dirsT (kindT p)) d1 d2 (dirsT (kindT p)).length k 0 (0, 0) (by omega) (by omega) (by omega) good0
  rw [List.drop_zero] at this
  exact this

def absI (x : Int) : Int := if x < 0 then -x else x
def stepK (kind : Nat) (u v : Int) (near : Bool) : Bool :=
  match kind with
  | 1 => decide (u = 0) && decide (v = 1)
  | 3 => decide (u = 1) && decide (v = 2)
  | 4 => near && (decide (v = 1) || (decide (u = 1) && decide (v = -1)))
  | 5 | 9 | 10 | 11 | 12 => near && (decide (v ≥ 0) || decide (u = 0))
  | 8 => near
  | 14 => near && (decide (u = 0) || decide (v = 0))
  | 15 => near && (decide (u = 1) && decide (v ≠ 0))
  | _ => false
def stepV (side q t : Int) : Int := if side = 1 then -(q % 9 - t % 9) else q % 9 - t % 9
def stepB (kind : Nat) (side q t : Int) : Bool :=
  if q < 0 ∨ 80 < q ∨ q = t then false
  else stepK kind (absI (t / 9 - q / 9)) (stepV side q t) (decide (absI (t / 9 - q / 9) ≤ 1) && decide (absI (stepV side q t) ≤ 1))
def okRef (p : Int) : Bool := kakugyoref02_Kind.f p == some ((kindT p : Nat) : Int) && kakugyoref02_Side.f p == some (sideT p)
theorem ref_is (p : Int) (hp : (Lit.int .i8 p).wf = true) : kakugyoref02_Kind.f p = some ((kindT p : Nat) : Int) ∧ kakugyoref02_Side.f p = some (sideT p) := by
  have h := all_i8 okRef (by decide +kernel) p hp
  unfold okRef at h
  rw [Bool.and_eq_true, beq_iff_eq, beq_iff_eq] at h
  exact h
theorem size_is (x : Int) (h : -100 ≤ x ∧ x ≤ 100) : kakugyoref03_size.f x = some (absI x) := by
  unfold kakugyoref03_size.f absI
  by_cases a : x < 0
  · rw [if_pos a, if_pos a, show wrap64 (-x) = -x by unfold wrap64; omega]
  · rw [if_neg a, if_neg a]
theorem j2_is (k : Nat) (p u v : Int) (near : Bool) (kind : Nat) (hk : kind ≤ 15) (h : kakugyoref02_Kind.f p = some ((kind : Nat) : Int)) : kakugyoref03_Step.j2 (k + 2) p u v near = some (stepK kind u v near) := by
  simp only [kakugyoref03_Step.j2, h, Option.bind_some]
  obtain rfl | rfl | rfl | rfl | rfl | rfl | rfl | rfl | rfl | rfl | rfl | rfl | rfl | rfl | rfl | rfl : kind = 0 ∨ kind = 1 ∨ kind = 2 ∨ kind = 3 ∨ kind = 4 ∨ kind = 5 ∨ kind = 6 ∨ kind = 7 ∨ kind = 8 ∨ kind = 9 ∨ kind = 10 ∨ kind = 11 ∨ kind = 12 ∨ kind = 13 ∨ kind = 14 ∨ kind = 15 := by omega
  all_goals
    cases near
    all_goals
      simp [kakugyoref03_Step.j3, stepK]
      try (repeat' split)
      all_goals (try simp_all)
      all_goals (try (rw [Bool.eq_iff_iff]; simp; try omega))
theorem step_ref (k : Nat) (p q t : Int) (hp : (Lit.int .i8 p).wf = true) (ht0 : 0 ≤ t) (ht1 : t ≤ 80) : kakugyoref03_Step.f (k + 4) p q t = some (stepB (kindT p) (sideT p) q t) := by
  obtain ⟨r1, r2⟩ := ref_is p hp
  have hj : kakugyoref03_Step.j0 (k + 4) p q t true = some false := by
    show kakugyoref03_Step.j0 ((k + 3) + 1) p q t true = _
    simp only [kakugyoref03_Step.j0]
    rw [if_pos trivial]
  unfold kakugyoref03_Step.f stepB
  by_cases h1 : q < 0
  · rw [if_pos h1, if_pos (.inl h1), hj]
  rw [if_neg h1]
  by_cases h2 : q > 80
  · rw [if_pos h2, if_pos (.inr (.inl h2)), hj]
  rw [if_neg h2, if_neg (by omega), if_neg (by omega)]
  by_cases h3 : q = t
  · rw [show (q == t) = true from beq_iff_eq.2 h3, if_pos (.inr (.inr h3)), hj]
  rw [show (q == t) = false from beq_eq_false_iff_ne.2 h3, if_neg (by omega)]
  show kakugyoref03_Step.j0 ((k + 3) + 1) p q t false = _
  simp only [kakugyoref03_Step.j0]
  rw [if_neg (by decide)]
  have e1 : wrap64 (wrap64 (Int.tdiv t 9) - wrap64 (Int.tdiv q 9)) = t / 9 - q / 9 := by
    rw [Int.tdiv_eq_ediv_of_nonneg (by omega), Int.tdiv_eq_ediv_of_nonneg (by omega)]
    have a1 : wrap64 (t / 9) = t / 9 := by unfold wrap64; omega
    have a2 : wrap64 (q / 9) = q / 9 := by unfold wrap64; omega
    rw [a1, a2]
    unfold wrap64; omega
  have e2 : wrap64 (Int.tmod q 9 - Int.tmod t 9) = q % 9 - t % 9 := by
    rw [Int.tmod_eq_emod_of_nonneg (by omega), Int.tmod_eq_emod_of_nonneg (by omega)]
    unfold wrap64; omega
  have e3 : wrap64 (-(q % 9 - t % 9)) = -(q % 9 - t % 9) := by unfold wrap64; omega
  rw [e1, e2, e3, size_is _ (by omega), r2]
  simp only [Option.bind_some]
  have hv : ∀ v : Int, -100 ≤ v → v ≤ 100 → kakugyoref03_Step.j1 (k + 3) p (absI (t / 9 - q / 9)) v = some (stepK (kindT p) (absI (t / 9 - q / 9)) v (decide (absI (t / 9 - q / 9) ≤ 1) && decide (absI v ≤ 1))) := by
    intro v v0 v1
    show kakugyoref03_Step.j1 ((k + 2) + 1) p _ v = _
    simp only [kakugyoref03_Step.j1]
    by_cases g : absI (t / 9 - q / 9) ≤ 1
    · rw [if_pos g, size_is v ⟨v0, v1⟩, decide_eq_true g]
      simp only [Option.bind_some, Bool.true_and]
      exact j2_is k p _ v _ _ (kindT_le p) r1
    · rw [if_neg g, decide_eq_false g, Bool.false_and]
      exact j2_is k p _ v _ _ (kindT_le p) r1
  unfold stepV
  by_cases hs : sideT p = 1
  · rw [if_pos hs, if_pos hs, hv _ (by omega) (by omega)]
  · rw [if_neg hs, if_neg hs, hv _ (by omega) (by omega)]

def chk (kind : Nat) (side : Int) (q : Nat) : Bool := let s := stepN kind side (q : Int); (List.range 81).all fun t => has s t == stepB kind side (q : Int) (t : Int)
def chkK (kind : Nat) : Bool := (List.range 81).all fun q => chk kind 0 q && chk kind 1 q
theorem chk0 : chkK 0 = true := by decide +kernel
theorem chk1 : chkK 1 = true := by decide +kernel
theorem chk2 : chkK 2 = true := by decide +kernel
theorem chk3 : chkK 3 = true := by decide +kernel
theorem chk4 : chkK 4 = true := by decide +kernel
theorem chk5 : chkK 5 = true := by decide +kernel
theorem chk6 : chkK 6 = true := by decide +kernel
theorem chk7 : chkK 7 = true := by decide +kernel
theorem chk8 : chkK 8 = true := by decide +kernel
theorem chk9 : chkK 9 = true := by decide +kernel
theorem chk10 : chkK 10 = true := by decide +kernel
theorem chk11 : chkK 11 = true := by decide +kernel
theorem chk12 : chkK 12 = true := by decide +kernel
theorem chk13 : chkK 13 = true := by decide +kernel
theorem chk14 : chkK 14 = true := by decide +kernel
theorem chk15 : chkK 15 = true := by decide +kernel
theorem chk_all (kind : Nat) (h : kind ≤ 15) : chkK kind = true := by
  obtain rfl | rfl | rfl | rfl | rfl | rfl | rfl | rfl | rfl | rfl | rfl | rfl | rfl | rfl | rfl | rfl : kind = 0 ∨ kind = 1 ∨ kind = 2 ∨ kind = 3 ∨ kind = 4 ∨ kind = 5 ∨ kind = 6 ∨ kind = 7 ∨ kind = 8 ∨ kind = 9 ∨ kind = 10 ∨ kind = 11 ∨ kind = 12 ∨ kind = 13 ∨ kind = 14 ∨ kind = 15 := by omega
  · exact chk0
  · exact chk1
  · exact chk2
  · exact chk3
  · exact chk4
  · exact chk5
  · exact chk6
  · exact chk7
  · exact chk8
  · exact chk9
  · exact chk10
  · exact chk11
  · exact chk12
  · exact chk13
  · exact chk14
  · exact chk15
theorem fold_out (side q : Int) (h : q < 0 ∨ 80 < q) (l : List S23) : ∀ s, stepFold side q l s = s := by
  induction l with
  | nil => intro s; rfl
  | cons d l ih =>
    intro s
    rw [fold_cons, ih]
    have e : fromI (turnI side d).1 (turnI side d).2 q = -1 := by unfold fromI; rw [if_neg (by omega)]
    rw [e]
    unfold add
    rw [if_neg (by omega)]
theorem has_zero (t : Nat) : has (0, 0) t = false := by
  unfold has; split
  · simp
  · simp
theorem same (p q : Int) (hp : (Lit.int .i8 p).wf = true) (t : Nat) (ht : t < 81) : has (stepN (kindT p) (sideT p) q) t = stepB (kindT p) (sideT p) q (t : Int) := by
  by_cases hq : 0 ≤ q ∧ q ≤ 80
  · obtain ⟨n, rfl⟩ : ∃ n : Nat, q = n := ⟨q.toNat, by omega⟩
    by_cases hk : kindT p = 0
    · rw [hk]
      have e1 : stepN 0 (sideT p) (n : Int) = (0, 0) := rfl
      rw [e1, has_zero]
      unfold stepB stepK
      split <;> rfl
    · have h := List.all_eq_true.1 (chk_all (kindT p) (kindT_le p)) n (List.mem_range.2 (by omega))
      rw [Bool.and_eq_true] at h
      have hs : sideT p = 0 ∨ sideT p = 1 := by
        unfold sideT
        rw [if_neg hk]
        split
        · exact .inl rfl
        · exact .inr rfl
      rcases hs with e | e
      · rw [e]
        have := List.all_eq_true.1 h.1 t (List.mem_range.2 ht)
        simpa using this
      · rw [e]
        have := List.all_eq_true.1 h.2 t (List.mem_range.2 ht)
        simpa using this
  · have e1 : stepN (kindT p) (sideT p) q = (0, 0) := fold_out _ _ (by omega) _ _
    rw [e1, has_zero]
    unfold stepB
    rw [if_pos (by omega)]
theorem loop (p q : Int) (hp : (Lit.int .i8 p).wf = true) : ∀ (d k i : Nat), i ≤ 81 → 81 - i = d → d + 10 < k → kakugyolaw03_StepOf.l0 k p q (i : Int) ((stepN (kindT p) (sideT p) q).1 : Int) ((stepN (kindT p) (sideT p) q).2 : Int) = some true := by
  have hg := good_step (kindT p) (sideT p) q
  have hb := bounds_i8 hp
  have hwp : wrap64 p = p := by unfold wrap64; omega
  intro d
  induction d with
  | zero =>
    intro k i h1 h2 hk
    obtain ⟨k, rfl⟩ : ∃ m, k = m + 1 := ⟨k - 1, by omega⟩
    simp only [kakugyolaw03_StepOf.l0]
    rw [if_neg (by omega)]
    have e1 : Go.bits .and .u64 ((stepN (kindT p) (sideT p) q).1 : Int) 9223372036854775807 = ((stepN (kindT p) (sideT p) q).1 : Int) := by
      rw [show (9223372036854775807 : Int) = ((2 ^ 63 - 1 : Nat) : Int) from rfl, bits_and_u64_nat _ _ (p64 hg.1) (by decide), Nat.and_two_pow_sub_one_eq_mod, Nat.mod_eq_of_lt hg.1]
    have e2 : Go.bits .and .u64 ((stepN (kindT p) (sideT p) q).2 : Int) 262143 = ((stepN (kindT p) (sideT p) q).2 : Int) := by
      rw [show (262143 : Int) = ((2 ^ 18 - 1 : Nat) : Int) from rfl, bits_and_u64_nat _ _ (q64 hg.2) (by decide), Nat.and_two_pow_sub_one_eq_mod, Nat.mod_eq_of_lt hg.2]
    simp only [set_All.f, set_Set_And.f, Option.bind_some, e1, e2]
    simp
  | succ d ih =>
    intro k i h1 h2 hk
    obtain ⟨k, rfl⟩ : ∃ m, k = m + 1 := ⟨k - 1, by omega⟩
    have hw : wrap64 ((i : Int) + 1) = ((i + 1 : Nat) : Int) := by clear ih; unfold wrap64; omega
    have hz := ih k (i + 1) (by omega) (by omega) (by omega)
    simp only [kakugyolaw03_StepOf.l0]
    obtain ⟨m, rfl⟩ : ∃ m, k = m + 4 := ⟨k - 4, by omega⟩
    have hh := has_is (m + 3) (stepN (kindT p) (sideT p) q) i hg (by omega)
    have hr := step_ref m p q (i : Int) hp (by omega) (by omega)
    rw [if_pos (by omega), hwp, hh, hr]
    simp only [Option.bind_some]
    rw [same p q hp i (by omega), if_neg (by simp), hw]
    exact hz
theorem StepOf : kakugyolaw03_StepOf.Pure := by
  intro p q hp _
  refine ⟨100, ?_⟩
  have hn : kakugyolaw03_steps.f 100 = some true := by decide +kernel
  unfold kakugyolaw03_StepOf.f
  rw [hn, step_is p q hp 100 (by omega)]
  simp only [Option.bind_some, if_true]
  exact loop p q hp 81 100 0 (by omega) (by omega) (by omega)

end Go.Proofs.Ytmoeodcmfjnihaa.Pure
