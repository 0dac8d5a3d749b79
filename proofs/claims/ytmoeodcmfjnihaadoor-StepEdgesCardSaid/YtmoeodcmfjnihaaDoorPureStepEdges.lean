/- For every piece and number the law StepEdges answers true: fifteen kinds of two sides on 81 squares one by one, over sets as two natural numbers; from no square there is no step. -/
import Derived.Test.YtmoeodcmfjnihaaDoorPax7
import Derived.Test.YtmoeodcmfjnihaaDoorPax6
import Derived.Test.YtmoeodcmfjnihaaDoorPax2
import Derived.Laws.Bits64b
import Derived.OpenShut
namespace Go.Proofs.YtmoeodcmfjnihaaDoor.Pure
open Go.RowKit Go.Proofs.YtmoeodcmfjnihaaDoor.Pa Go.Proofs.YtmoeodcmfjnihaaDoorW.PrintWords Go.Proofs.YtmoeodcmfjnihaaDoorW.PrintLast Go.Proofs.YtmoeodcmfjnihaaDoorW.PrintMore
set_option linter.unusedVariables false
set_option linter.unusedSimpArgs false

theorem all_i8 (P : Int → Bool) (h : (List.range 256).all (fun n => P ((n : Int) - 128)) = true) (a : Int) (ha : (Lit.int .i8 a).wf = true) : P a = true := by
  have hb := bounds_i8 ha
  have := List.all_eq_true.1 h (a + 128).toNat (List.mem_range.2 (by omega))
  rw [show (((a + 128).toNat : Nat) : Int) - 128 = a by omega] at this
  exact this
theorem all_to (m : Nat) (P : Int → Bool) (h : (List.range m).all (fun n => P (n : Int)) = true) (a : Int) (h0 : 0 ≤ a) (h1 : a < m) : P a = true := by
  have := List.all_eq_true.1 h a.toNat (List.mem_range.2 (by omega))
  rw [show ((a.toNat : Nat) : Int) = a by omega] at this
  exact this
theorem of_beq_some {o : Option Bool} (h : (o == some true) = true) : o = some true := by simpa using h

def lo (q : Nat) : Nat := if q < 63 then 2 ^ q else 0
def hi (q : Nat) : Nat := if q < 63 then 0 else 2 ^ (q - 63)
def add (s : Nat × Nat) (q : Int) : Nat × Nat := if 0 ≤ q ∧ q ≤ 80 then (s.1 ||| lo q.toNat, s.2 ||| hi q.toNat) else s
def has (s : Nat × Nat) (q : Nat) : Bool := if q < 63 then s.1.testBit q else s.2.testBit (q - 63)
def Good (s : Nat × Nat) : Prop := s.1 < 2 ^ 63 ∧ s.2 < 2 ^ 18
theorem good0 : Good (0, 0) := by unfold Good; decide
theorem lo_lt (q : Nat) : lo q < 2 ^ 63 := by
  unfold lo; split
  · exact Nat.pow_lt_pow_right (by omega) (by assumption)
  · decide
theorem hi_lt (q : Nat) (h : q ≤ 80) : hi q < 2 ^ 18 := by
  unfold hi; split
  · decide
  · exact Nat.pow_lt_pow_right (by omega) (by omega)
theorem good_add (s : Nat × Nat) (q : Int) (h : Good s) : Good (add s q) := by
  unfold add; split
  · exact ⟨Nat.or_lt_two_pow h.1 (lo_lt _), Nat.or_lt_two_pow h.2 (hi_lt _ (by omega))⟩
  · exact h
theorem shl_one (q : Nat) (h : q < 64) : shl .u64 1 (q : Int) = ((2 ^ q : Nat) : Int) := by
  have hp : ∀ q, q < 64 → (IntKind.u64.wrap (1 * 2 ^ min ((q : Nat) : Int).toNat IntKind.u64.bits)) = ((2 ^ q : Nat) : Int) := by decide +kernel
  exact hp q h
theorem bit_in (k q : Nat) (h : q ≤ 80) : set_bit.f (k + 1) (q : Int) = some (((lo q : Nat) : Int), ((hi q : Nat) : Int)) := by
  unfold set_bit.f
  rw [if_neg (by omega), show (decide ((q : Int) ≥ 81)) = false from decide_eq_false (by omega)]
  simp only [set_bit.j0]
  rw [if_neg (by decide)]
  unfold lo hi
  by_cases h63 : q < 63
  · rw [if_pos (by omega), if_pos (by omega), shl_one q (by omega), if_pos h63, if_pos h63]; rfl
  · have e : wrap64 ((q : Int) - 63) = ((q - 63 : Nat) : Int) := by unfold wrap64; omega
    rw [if_neg (by omega), e, if_pos (by omega), shl_one (q - 63) (by omega), if_neg h63, if_neg h63]; rfl
theorem bit_no (k : Nat) (q : Int) (h : q < 0 ∨ 80 < q) : set_bit.f (k + 1) q = some (0, 0) := by
  unfold set_bit.f
  have hj : set_bit.j0 (k + 1) q true = some (0, 0) := by simp only [set_bit.j0]; rw [if_pos trivial]
  by_cases a : q < 0
  · rw [if_pos a, hj]
  · rw [if_neg a, show (decide (q ≥ 81)) = true from decide_eq_true (by omega), hj]
theorem p64 {n : Nat} (h : n < 2 ^ 63) : n < 18446744073709551616 := Nat.lt_trans h (by decide)
theorem q64 {n : Nat} (h : n < 2 ^ 18) : n < 18446744073709551616 := Nat.lt_trans h (by decide)
theorem with_is (k : Nat) (s : Nat × Nat) (q : Int) (h : Good s) : set_Set_With.f (k + 1) (s.1 : Int) (s.2 : Int) q = some (((add s q).1 : Int), ((add s q).2 : Int)) := by
  unfold set_Set_With.f
  by_cases hq : 0 ≤ q ∧ q ≤ 80
  · obtain ⟨n, rfl⟩ : ∃ n : Nat, q = n := ⟨q.toNat, by omega⟩
    rw [bit_in k n (by omega)]
    simp only [Option.bind_some, set_Set_Or.f]
    unfold add
    rw [if_pos hq, bits_or_u64_nat _ _ (p64 h.1) (p64 (lo_lt n)), bits_or_u64_nat _ _ (q64 h.2) (q64 (hi_lt n (by omega)))]
    rfl
  · rw [bit_no k q (by omega)]
    simp only [Option.bind_some, set_Set_Or.f]
    unfold add
    rw [if_neg hq, show (0 : Int) = ((0 : Nat) : Int) from rfl, bits_or_u64_nat _ _ (p64 h.1) (by decide), bits_or_u64_nat _ _ (q64 h.2) (by decide), Nat.or_zero, Nat.or_zero]
theorem and_pow (a q : Nat) : (a &&& 2 ^ q == 0) = !a.testBit q := by
  cases h : a.testBit q
  · have : a &&& 2 ^ q = 0 := Nat.eq_of_testBit_eq fun i => by
      rw [Nat.testBit_and, Nat.testBit_two_pow, Nat.zero_testBit]
      by_cases e : q = i
      · rw [← e, h]; rfl
      · rw [decide_eq_false e, Bool.and_false]
    rw [this]; rfl
  · rw [Bool.not_true, beq_eq_false_iff_ne]
    intro h0
    have := congrArg (fun n => Nat.testBit n q) h0
    simp [Nat.testBit_and, Nat.testBit_two_pow_self, h] at this
theorem has_is (k : Nat) (s : Nat × Nat) (q : Nat) (h : Good s) (hq : q ≤ 80) : set_Set_Has.f (k + 1) (s.1 : Int) (s.2 : Int) (q : Int) = some (has s q) := by
  unfold set_Set_Has.f
  rw [bit_in k q hq]
  simp only [Option.bind_some, set_Set_And.f, set_Set_Empty.f]
  rw [bits_and_u64_nat _ _ (p64 h.1) (p64 (lo_lt q)), bits_and_u64_nat _ _ (q64 h.2) (q64 (hi_lt q hq))]
  unfold has lo hi
  have c : ∀ n : Nat, ((n : Int) == 0) = (n == 0) := fun n => by rw [Bool.eq_iff_iff, beq_iff_eq, beq_iff_eq]; omega
  by_cases h63 : q < 63
  · rw [if_pos h63, if_pos h63, if_pos h63, Nat.and_zero, c, and_pow]
    simp
  · rw [if_neg h63, if_neg h63, if_neg h63, Nat.and_zero, c, c, and_pow]
    simp
theorem has_no (k : Nat) (s : Nat × Nat) (q : Int) (h : Good s) (hq : q < 0 ∨ 80 < q) : set_Set_Has.f (k + 1) (s.1 : Int) (s.2 : Int) q = some false := by
  unfold set_Set_Has.f
  rw [bit_no k q hq]
  simp only [Option.bind_some, set_Set_And.f, set_Set_Empty.f]
  rw [show (0 : Int) = ((0 : Nat) : Int) from rfl, bits_and_u64_nat _ _ (p64 h.1) (by decide), bits_and_u64_nat _ _ (q64 h.2) (by decide), Nat.and_zero, Nat.and_zero]
  rfl

/-- The square that is so many files and ranks on, or -1. -/
def fromI (dx dy q : Int) : Int := if (0 ≤ q ∧ q ≤ 80 ∧ -8 ≤ dx ∧ dx ≤ 8 ∧ -8 ≤ dy ∧ dy ≤ 8) ∧ 0 ≤ q / 9 + dx ∧ q / 9 + dx ≤ 8 ∧ 0 ≤ q % 9 + dy ∧ q % 9 + dy ≤ 8 then 9 * (q / 9 + dx) + (q % 9 + dy) else -1
theorem from_is (dx dy q : Int) : step_Dir_From.f dx dy q = some (fromI dx dy q) := by
  unfold step_Dir_From.f fromI
  by_cases h1 : q < 0
  · rw [if_pos h1, if_neg (by omega)]
  rw [if_neg h1]
  by_cases h2 : q ≥ 81
  · rw [if_pos h2, if_neg (by omega)]
  rw [if_neg h2]
  by_cases h3 : dx < -8
  · rw [if_pos h3, if_neg (by omega)]
  rw [if_neg h3]
  by_cases h4 : dx > 8
  · rw [if_pos h4, if_neg (by omega)]
  rw [if_neg h4]
  by_cases h5 : dy < -8
  · rw [if_pos h5, if_neg (by omega)]
  rw [if_neg h5]
  by_cases h6 : dy > 8
  · rw [if_pos h6, if_neg (by omega)]
  rw [if_neg h6]
  unfold set_Square.f
  by_cases g1 : q / 9 + dx < 0
  · rw [if_pos g1, if_neg (by omega)]
  rw [if_neg g1]
  by_cases g2 : q / 9 + dx > 8
  · rw [if_pos g2, if_neg (by omega)]
  rw [if_neg g2]
  by_cases g3 : q % 9 + dy < 0
  · rw [if_pos g3, if_neg (by omega)]
  rw [if_neg g3]
  by_cases g4 : q % 9 + dy > 8
  · rw [if_pos g4, if_neg (by omega)]
  rw [if_neg g4, if_pos ⟨⟨by omega, by omega, by omega, by omega, by omega, by omega⟩, by omega, by omega, by omega, by omega⟩]
  have e1 : wrap64 (9 * (q / 9 + dx)) = 9 * (q / 9 + dx) := by unfold wrap64; omega
  rw [e1]
  have e2 : wrap64 (9 * (q / 9 + dx) + (q % 9 + dy)) = 9 * (q / 9 + dx) + (q % 9 + dy) := by unfold wrap64; omega
  rw [e2]
def turnI (side : Int) (d : S52) : Int × Int := if side = 1 then (-d.f0, -d.f1) else (d.f0, d.f1)
def stepFold (side q : Int) : List S52 → Nat × Nat → Nat × Nat
  | [], s => s
  | d :: l, s => stepFold side q l (add s (fromI (turnI side d).1 (turnI side d).2 q))
theorem fold_nil (side q : Int) (s : Nat × Nat) : stepFold side q [] s = s := rfl
theorem fold_cons (side q : Int) (d : S52) (l : List S52) (s : Nat × Nat) : stepFold side q (d :: l) s = stepFold side q l (add s (fromI (turnI side d).1 (turnI side d).2 q)) := rfl
theorem good_fold (side q : Int) (l : List S52) : ∀ s, Good s → Good (stepFold side q l s) := by
  induction l with
  | nil => intro s h; exact h
  | cons d l ih => intro s h; exact ih _ (good_add s _ h)
def small (l : List S52) : Bool := l.all fun d => decide (-8 ≤ d.f0) && decide (d.f0 ≤ 8) && decide (-8 ≤ d.f1) && decide (d.f1 ≤ 8)
theorem fold_is (p q side : Int) (kk : Nat) (hside : ∀ k, kk ≤ k → piece_Side.f k p = some side) (L : List S52) (hL : L.length ≤ 20) (hs : small L = true) : ∀ (d k i : Nat) (s : Nat × Nat), i ≤ L.length → L.length - i = d → d + kk + 5 < k → Good s →
    step_Of.l0 k p q L (L.length : Int) (i : Int) (s.1 : Int) (s.2 : Int) = some (((stepFold side q (L.drop i) s).1 : Int), ((stepFold side q (L.drop i) s).2 : Int)) := by
  intro d
  induction d with
  | zero =>
    intro k i s h1 h2 hk hg
    obtain ⟨k, rfl⟩ : ∃ m, k = m + 1 := ⟨k - 1, by omega⟩
    simp only [step_Of.l0]
    rw [if_neg (by omega), List.drop_eq_nil_of_le (by omega), fold_nil]
  | succ d ih =>
    intro k i s h1 h2 hk hg
    obtain ⟨k, rfl⟩ : ∃ m, k = m + 1 := ⟨k - 1, by omega⟩
    have hi : i < L.length := by omega
    have hrd : rd_T52 L (i : Int) = L[i] := by
      unfold rd_T52
      rw [Int.toNat_natCast, List.getD_eq_getElem?_getD, List.getElem?_eq_getElem hi]; rfl
    have hb := List.all_eq_true.1 hs L[i] (List.getElem_mem hi)
    simp only [Bool.and_eq_true, decide_eq_true_eq] at hb
    have ht : step_Dir_Turn.f (L[i]).f0 (L[i]).f1 side = some (turnI side L[i]) := by
      unfold step_Dir_Turn.f turnI
      by_cases h : side = 1
      · rw [if_pos h, if_pos h, show wrap64 (-(L[i]).f0) = -(L[i]).f0 by unfold wrap64; omega, show wrap64 (-(L[i]).f1) = -(L[i]).f1 by unfold wrap64; omega]
      · rw [if_neg h, if_neg h]
    simp only [step_Of.l0]
    obtain ⟨k', rfl⟩ : ∃ m, k = m + 1 := ⟨k - 1, by omega⟩
    rw [if_pos (by omega), if_pos (by omega), if_pos (by omega), hside (k' + 1) (by omega)]
    simp only [Option.bind_some]
    rw [hrd, ht]
    simp only [Option.bind_some]
    rw [from_is]
    simp only [Option.bind_some]
    have hw : wrap64 ((i : Int) + 1) = ((i + 1 : Nat) : Int) := by clear ih hside ht hrd hb hs; unfold wrap64; omega
    have hz := ih (k' + 1) (i + 1) (add s (fromI (turnI side L[i]).1 (turnI side L[i]).2 q)) (by omega) (by omega) (by omega) (good_add s _ hg)
    rw [with_is k' s _ hg, Option.bind_some]
    dsimp only
    rw [hw, hz, List.drop_eq_getElem_cons hi, fold_cons]

def kindT (p : Int) : Nat := if 1 ≤ p ∧ p ≤ 15 ∧ p ≠ 13 then p.toNat else if 17 ≤ p ∧ p ≤ 31 ∧ p ≠ 29 then p.toNat - 16 else 0
def sideT (p : Int) : Int := if kindT p = 0 then -1 else if p < 16 then 0 else 1
theorem kindT_le (p : Int) : kindT p ≤ 15 := by
  unfold kindT; repeat' split
  all_goals omega
def okPiece (p : Int) : Bool := piece_Kind.f 5 p == some ((kindT p : Nat) : Int) && piece_Side.f 5 p == some (sideT p)
theorem piece_is (p : Int) (hp : (Lit.int .i8 p).wf = true) : (∀ k, 5 ≤ k → piece_Kind.f k p = some ((kindT p : Nat) : Int)) ∧ (∀ k, 5 ≤ k → piece_Side.f k p = some (sideT p)) := by
  have h := all_i8 okPiece (by decide +kernel) p hp
  unfold okPiece at h
  rw [Bool.and_eq_true, beq_iff_eq, beq_iff_eq] at h
  exact ⟨fun k hk => at_rounds (g := fun k => piece_Kind.f k p) (fun k => piece_Kind.mono p k) hk h.1, fun k hk => at_rounds (g := fun k => piece_Side.f k p) (fun k => piece_Side.mono p k) hk h.2⟩
def dirsT (kind : Nat) : List S52 :=
  match kind with
  | 1 => [⟨0, -1⟩]
  | 3 => [⟨-1, -2⟩, ⟨1, -2⟩]
  | 4 => [⟨-1, -1⟩, ⟨0, -1⟩, ⟨1, -1⟩, ⟨-1, 1⟩, ⟨1, 1⟩]
  | 5 | 9 | 10 | 11 | 12 => [⟨-1, -1⟩, ⟨0, -1⟩, ⟨1, -1⟩, ⟨-1, 0⟩, ⟨1, 0⟩, ⟨0, 1⟩]
  | 8 => [⟨-1, -1⟩, ⟨0, -1⟩, ⟨1, -1⟩, ⟨-1, 0⟩, ⟨1, 0⟩, ⟨0, 1⟩, ⟨-1, 1⟩, ⟨1, 1⟩]
  | 14 => [⟨0, -1⟩, ⟨-1, 0⟩, ⟨1, 0⟩, ⟨0, 1⟩]
  | 15 => [⟨-1, -1⟩, ⟨1, -1⟩, ⟨-1, 1⟩, ⟨1, 1⟩]
  | _ => []
theorem dirs_is (kind : Nat) (h : kind ≤ 15) (k : Nat) (hk : 10 ≤ k) : step_Dirs.f k (kind : Int) = some (dirsT kind) := by
  refine at_rounds (g := fun k => step_Dirs.f k (kind : Int)) (fun k => step_Dirs.mono _ k) hk ?_
  obtain rfl | rfl | rfl | rfl | rfl | rfl | rfl | rfl | rfl | rfl | rfl | rfl | rfl | rfl | rfl | rfl : kind = 0 ∨ kind = 1 ∨ kind = 2 ∨ kind = 3 ∨ kind = 4 ∨ kind = 5 ∨ kind = 6 ∨ kind = 7 ∨ kind = 8 ∨ kind = 9 ∨ kind = 10 ∨ kind = 11 ∨ kind = 12 ∨ kind = 13 ∨ kind = 14 ∨ kind = 15 := by omega
  all_goals kernel_rfl
theorem dirs_small (kind : Nat) (h : kind ≤ 15) : (dirsT kind).length ≤ 20 ∧ small (dirsT kind) = true := by
  obtain rfl | rfl | rfl | rfl | rfl | rfl | rfl | rfl | rfl | rfl | rfl | rfl | rfl | rfl | rfl | rfl : kind = 0 ∨ kind = 1 ∨ kind = 2 ∨ kind = 3 ∨ kind = 4 ∨ kind = 5 ∨ kind = 6 ∨ kind = 7 ∨ kind = 8 ∨ kind = 9 ∨ kind = 10 ∨ kind = 11 ∨ kind = 12 ∨ kind = 13 ∨ kind = 14 ∨ kind = 15 := by omega
  all_goals exact ⟨by decide, by decide⟩
def stepN (kind : Nat) (side q : Int) : Nat × Nat := stepFold side q (dirsT kind) (0, 0)
theorem good_step (kind : Nat) (side q : Int) : Good (stepN kind side q) := good_fold _ _ _ _ good0
theorem step_is (p q : Int) (hp : (Lit.int .i8 p).wf = true) (k : Nat) (hk : 60 ≤ k) : step_Of.f k p q = some (((stepN (kindT p) (sideT p) q).1 : Int), ((stepN (kindT p) (sideT p) q).2 : Int)) := by
  obtain ⟨h1, h2⟩ := piece_is p hp
  obtain ⟨d1, d2⟩ := dirs_small (kindT p) (kindT_le p)
  unfold step_Of.f
  rw [h1 k (by omega)]
  simp only [Option.bind_some]
  rw [dirs_is (kindT p) (kindT_le p) k (by omega)]
  simp only [Option.bind_some]
  have := fold_is p q (sideT p) 5 h2 (dirsT (kindT p)) d1 d2 (dirsT (kindT p)).length k 0 (0, 0) (by omega) (by omega) (by omega) good0
  rw [List.drop_zero] at this
  exact this

def edgeAt (kind : Nat) (side : Int) (q : Nat) : Bool := kakugyolaw03_StepEdges.j0 90 (q : Int) false ((stepN kind side (q : Int)).1 : Int) ((stepN kind side (q : Int)).2 : Int) == some true
def edgeK (kind : Nat) : Bool := (List.range 81).all fun q => edgeAt kind 0 q && edgeAt kind 1 q && edgeAt kind (-1) q
theorem edge0 : edgeK 0 = true := by decide +kernel
theorem edge1 : edgeK 1 = true := by decide +kernel
theorem edge2 : edgeK 2 = true := by decide +kernel
theorem edge3 : edgeK 3 = true := by decide +kernel
theorem edge4 : edgeK 4 = true := by decide +kernel
theorem edge5 : edgeK 5 = true := by decide +kernel
theorem edge6 : edgeK 6 = true := by decide +kernel
theorem edge7 : edgeK 7 = true := by decide +kernel
theorem edge8 : edgeK 8 = true := by decide +kernel
theorem edge9 : edgeK 9 = true := by decide +kernel
theorem edge10 : edgeK 10 = true := by decide +kernel
theorem edge11 : edgeK 11 = true := by decide +kernel
theorem edge12 : edgeK 12 = true := by decide +kernel
theorem edge13 : edgeK 13 = true := by decide +kernel
theorem edge14 : edgeK 14 = true := by decide +kernel
theorem edge15 : edgeK 15 = true := by decide +kernel
theorem edge_all (kind : Nat) (h2 : kind ≤ 15) : edgeK kind = true := by
  obtain rfl | rfl | rfl | rfl | rfl | rfl | rfl | rfl | rfl | rfl | rfl | rfl | rfl | rfl | rfl | rfl : kind = 0 ∨ kind = 1 ∨ kind = 2 ∨ kind = 3 ∨ kind = 4 ∨ kind = 5 ∨ kind = 6 ∨ kind = 7 ∨ kind = 8 ∨ kind = 9 ∨ kind = 10 ∨ kind = 11 ∨ kind = 12 ∨ kind = 13 ∨ kind = 14 ∨ kind = 15 := by omega
  · exact edge0
  · exact edge1
  · exact edge2
  · exact edge3
  · exact edge4
  · exact edge5
  · exact edge6
  · exact edge7
  · exact edge8
  · exact edge9
  · exact edge10
  · exact edge11
  · exact edge12
  · exact edge13
  · exact edge14
  · exact edge15
theorem fold_no (side q : Int) (hq : q < 0 ∨ 80 < q) : ∀ (l : List S52) (s : Nat × Nat), stepFold side q l s = s
  | [], s => fold_nil side q s
  | d :: l, s => by
    rw [fold_cons]
    have e : fromI (turnI side d).1 (turnI side d).2 q = -1 := by
      unfold fromI
      rw [if_neg (by omega)]
    rw [e]
    have : add s (-1) = s := by unfold add; rw [if_neg (by omega)]
    rw [this]
    exact fold_no side q hq l s
theorem StepEdges : kakugyolaw03_StepEdges.Pure := by
  intro p q hp _
  refine ⟨90, ?_⟩
  have hn : kakugyolaw03_steps.f 90 = some true := by decide +kernel
  unfold kakugyolaw03_StepEdges.f
  rw [hn, Option.bind_some, if_pos rfl, step_is p q hp 90 (by decide), Option.bind_some]
  by_cases h : 0 ≤ q ∧ q ≤ 80
  · rw [if_neg (by omega), show decide (q > 80) = false from decide_eq_false (by omega)]
    have hk := edge_all (kindT p) (kindT_le p)
    unfold edgeK at hk
    have hq := List.all_eq_true.1 hk q.toNat (List.mem_range.2 (by omega))
    rw [Bool.and_eq_true, Bool.and_eq_true] at hq
    have hs : sideT p = 0 ∨ sideT p = 1 ∨ sideT p = -1 := by
      unfold sideT
      repeat' split
      all_goals omega
    have e : ((q.toNat : Nat) : Int) = q := by omega
    unfold edgeAt at hq
    rw [e] at hq
    obtain ⟨⟨q0, q1⟩, q2⟩ := hq
    rcases hs with hs | hs | hs
    · rw [hs]; exact of_beq_some q0
    · rw [hs]; exact of_beq_some q1
    · rw [hs]; exact of_beq_some q2
  · have e : stepN (kindT p) (sideT p) q = (0, 0) := fold_no _ q (by omega) _ _
    rw [e]
    have hj : kakugyolaw03_StepEdges.j0 90 q true 0 0 = some true := by
      simp only [kakugyolaw03_StepEdges.j0]
      rw [if_pos trivial]
      decide +kernel
    by_cases h1 : q < 0
    · rw [if_pos h1]; exact hj
    · rw [if_neg h1, show decide (q > 80) = true from decide_eq_true (by omega)]; exact hj

end Go.Proofs.YtmoeodcmfjnihaaDoor.Pure
