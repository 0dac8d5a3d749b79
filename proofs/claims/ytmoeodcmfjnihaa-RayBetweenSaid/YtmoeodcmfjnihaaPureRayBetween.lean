/- For every two numbers the law RayBetween answers true: all 6,561 pairs of squares one by one, over sets as two natural numbers, all others together. -/
import Derived.Test.YtmoeodcmfjnihaaPbx9
import Derived.Test.YtmoeodcmfjnihaaPbx7
import Derived.Test.YtmoeodcmfjnihaaPbx5
import Derived.Test.YtmoeodcmfjnihaaPbx6
import Derived.Test.YtmoeodcmfjnihaaPbx3
import Derived.Test.YtmoeodcmfjnihaaPbx8
import Derived.Test.YtmoeodcmfjnihaaPbx4
import Derived.Laws.Bits64b
import Derived.Laws.BitsAllLaws
import Derived.OpenShut
namespace Go.Proofs.Ytmoeodcmfjnihaa.Pure
open Go.RowKit Go.Proofs.Ytmoeodcmfjnihaa.Pb Go.Proofs.YtmoeodcmfjnihaaW.PrintWords Go.Proofs.YtmoeodcmfjnihaaW.PrintLast Go.Proofs.YtmoeodcmfjnihaaW.PrintMore
set_option linter.unusedVariables false
set_option linter.unusedSimpArgs false

theorem all_i8 (P : Int → Bool) (h : (List.range 256).all (fun n => P ((n : Int) - 128)) = true) (a : Int) (ha : (Lit.int .i8 a).wf = true) : P a = true := by
  have hb := bounds_i8 ha
  have := List.all_eq_true.1 h (a + 128).toNat (List.mem_range.2 (by omega))
  rw [show (((a + 128).toNat : Nat) : Int) - 128 = a by omega] at this
  exact this
theorem all_to (m : Nat) (P : Int → Bool) (h : (List.range m).all (fun n => P (n : Int)) = true) (a : Int) (h0 : 0 ≤ a) (h1 : a < m) : P a = true := by
  have := List.all_eq_true.1 h a.toNat (List.mem_range.2 (by omega))
  rw [show ((a.toNat : Nat) : Int) = a by omega] at this
  exact this
theorem of_beq_some {o : Option Bool} (h : (o == some true) = true) : o = some true := by simpa using h

def lo (q : Nat) : Nat := if q < 63 then 2 ^ q else 0
def hi (q : Nat) : Nat := if q < 63 then 0 else 2 ^ (q - 63)
def add (s : Nat × Nat) (q : Int) : Nat × Nat := if 0 ≤ q ∧ q ≤ 80 then (s.1 ||| lo q.toNat, s.2 ||| hi q.toNat) else s
def has (s : Nat × Nat) (q : Nat) : Bool := if q < 63 then s.1.testBit q else s.2.testBit (q - 63)
def Good (s : Nat × Nat) : Prop := s.1 < 2 ^ 63 ∧ s.2 < 2 ^ 18
theorem good0 : Good (0, 0) := by unfold Good; decide
theorem lo_lt (q : Nat) : lo q < 2 ^ 63 := by
  unfold lo; split
  · exact Nat.pow_lt_pow_right (by omega) (by assumption)
  · decide
theorem hi_lt (q : Nat) (h : q ≤ 80) : hi q < 2 ^ 18 := by
  unfold hi; split
  · decide
  · exact Nat.pow_lt_pow_right (by omega) (by omega)
theorem good_add (s : Nat × Nat) (q : Int) (h : Good s) : Good (add s q) := by
  unfold add; split
  · exact ⟨Nat.or_lt_two_pow h.1 (lo_lt _), Nat.or_lt_two_pow h.2 (hi_lt _ (by omega))⟩
  · exact h
theorem shl_one (q : Nat) (h : q < 64) : shl .u64 1 (q : Int) = ((2 ^ q : Nat) : Int) := by
  have hp : ∀ q, q < 64 → (IntKind.u64.wrap (1 * 2 ^ min ((q : Nat) : Int).toNat IntKind.u64.bits)) = ((2 ^ q : Nat) : Int) := by decide +kernel
  exact hp q h
theorem bit_in (k q : Nat) (h : q ≤ 80) : set_bit.f (k + 1) (q : Int) = some (((lo q : Nat) : Int), ((hi q : Nat) : Int)) := by
  unfold set_bit.f
  rw [if_neg (by omega), show (decide ((q : Int) ≥ 81)) = false from decide_eq_false (by omega)]
  simp only [set_bit.j0]
  rw [if_neg (by decide)]
  unfold lo hi
  by_cases h63 : q < 63
  · rw [if_pos (by omega), if_pos (by omega), shl_one q (by omega), if_pos h63, if_pos h63]; rfl
  · have e : wrap64 ((q : Int) - 63) = ((q - 63 : Nat) : Int) := by unfold wrap64; omega
    rw [if_neg (by omega), e, if_pos (by omega), shl_one (q - 63) (by omega), if_neg h63, if_neg h63]; rfl
theorem bit_no (k : Nat) (q : Int) (h : q < 0 ∨ 80 < q) : set_bit.f (k + 1) q = some (0, 0) := by
  unfold set_bit.f
  have hj : set_bit.j0 (k + 1) q true = some (0, 0) := by simp only [set_bit.j0]; rw [if_pos trivial]
  by_cases a : q < 0
  · rw [if_pos a, hj]
  · rw [if_neg a, show (decide (q ≥ 81)) = true from decide_eq_true (by omega), hj]
theorem p64 {n : Nat} (h : n < 2 ^ 63) : n < 18446744073709551616 := Nat.lt_trans h (by decide)
theorem q64 {n : Nat} (h : n < 2 ^ 18) : n < 18446744073709551616 := Nat.lt_trans h (by decide)
theorem with_is (k : Nat) (s : Nat × Nat) (q : Int) (h : Good s) : set_Set_With.f (k + 1) (s.1 : Int) (s.2 : Int) q = some (((add s q).1 : Int), ((add s q).2 : Int)) := by
  unfold set_Set_With.f
  by_cases hq : 0 ≤ q ∧ q ≤ 80
  · obtain ⟨n, rfl⟩ : ∃ n : Nat, q = n := ⟨q.toNat, by omega⟩
    rw [bit_in k n (by omega)]
    simp only [Option.bind_some, set_Set_Or.f]
    unfold add
    rw [if_pos hq, bits_or_u64_nat _ _ (p64 h.1) (p64 (lo_lt n)), bits_or_u64_nat _ _ (q64 h.2) (q64 (hi_lt n (by omega)))]
    rfl
  · rw [bit_no k q (by omega)]
    simp only [Option.bind_some, set_Set_Or.f]
    unfold add
    rw [if_neg hq, show (0 : Int) = ((0 : Nat) : Int) from rfl, bits_or_u64_nat _ _ (p64 h.1) (by decide), bits_or_u64_nat _ _ (q64 h.2) (by decide), Nat.or_zero, Nat.or_zero]
theorem and_pow (a q : Nat) : (a &&& 2 ^ q == 0) = !a.testBit q := by
  cases h : a.testBit q
  · have : a &&& 2 ^ q = 0 := Nat.eq_of_testBit_eq fun i => by
      rw [Nat.testBit_and, Nat.testBit_two_pow, Nat.zero_testBit]
      by_cases e : q = i
      · rw [← e, h]; rfl
      · rw [decide_eq_false e, Bool.and_false]
    rw [this]; rfl
  · rw [Bool.not_true, beq_eq_false_iff_ne]
    intro h0
    have := congrArg (fun n => Nat.testBit n q) h0
    simp [Nat.testBit_and, Nat.testBit_two_pow_self, h] at this
theorem has_is (k : Nat) (s : Nat × Nat) (q : Nat) (h : Good s) (hq : q ≤ 80) : set_Set_Has.f (k + 1) (s.1 : Int) (s.2 : Int) (q : Int) = some (has s q) := by
  unfold set_Set_Has.f
  rw [bit_in k q hq]
  simp only [Option.bind_some, set_Set_And.f, set_Set_Empty.f]
  rw [bits_and_u64_nat _ _ (p64 h.1) (p64 (lo_lt q)), bits_and_u64_nat _ _ (q64 h.2) (q64 (hi_lt q hq))]
  unfold has lo hi
  have c : ∀ n : Nat, ((n : Int) == 0) = (n == 0) := fun n => by rw [Bool.eq_iff_iff, beq_iff_eq, beq_iff_eq]; omega
  by_cases h63 : q < 63
  · rw [if_pos h63, if_pos h63, if_pos h63, Nat.and_zero, c, and_pow]
    simp
  · rw [if_neg h63, if_neg h63, if_neg h63, Nat.and_zero, c, c, and_pow]
    simp
theorem has_no (k : Nat) (s : Nat × Nat) (q : Int) (h : Good s) (hq : q < 0 ∨ 80 < q) : set_Set_Has.f (k + 1) (s.1 : Int) (s.2 : Int) q = some false := by
  unfold set_Set_Has.f
  rw [bit_no k q hq]
  simp only [Option.bind_some, set_Set_And.f, set_Set_Empty.f]
  rw [show (0 : Int) = ((0 : Nat) : Int) from rfl, bits_and_u64_nat _ _ (p64 h.1) (by decide), bits_and_u64_nat _ _ (q64 h.2) (by decide), Nat.and_zero, Nat.and_zero]
  rfl

/-- The square that is so many files and ranks on, or -1. -/
def fromI (dx dy q : Int) : Int := if (0 ≤ q ∧ q ≤ 80 ∧ -8 ≤ dx ∧ dx ≤ 8 ∧ -8 ≤ dy ∧ dy ≤ 8) ∧ 0 ≤ q / 9 + dx ∧ q / 9 + dx ≤ 8 ∧ 0 ≤ q % 9 + dy ∧ q % 9 + dy ≤ 8 then 9 * (q / 9 + dx) + (q % 9 + dy) else -1
theorem from_is (dx dy q : Int) : step_Dir_From.f dx dy q = some (fromI dx dy q) := by
  unfold step_Dir_From.f fromI
  by_cases h1 : q < 0
  · rw [if_pos h1, if_neg (by omega)]
  rw [if_neg h1]
  by_cases h2 : q ≥ 81
  · rw [if_pos h2, if_neg (by omega)]
  rw [if_neg h2]
  by_cases h3 : dx < -8
  · rw [if_pos h3, if_neg (by omega)]
  rw [if_neg h3]
  by_cases h4 : dx > 8
  · rw [if_pos h4, if_neg (by omega)]
  rw [if_neg h4]
  by_cases h5 : dy < -8
  · rw [if_pos h5, if_neg (by omega)]
  rw [if_neg h5]
  by_cases h6 : dy > 8
  · rw [if_pos h6, if_neg (by omega)]
  rw [if_neg h6]
  unfold set_Square.f
  by_cases g1 : q / 9 + dx < 0
  · rw [if_pos g1, if_neg (by omega)]
  rw [if_neg g1]
  by_cases g2 : q / 9 + dx > 8
  · rw [if_pos g2, if_neg (by omega)]
  rw [if_neg g2]
  by_cases g3 : q % 9 + dy < 0
  · rw [if_pos g3, if_neg (by omega)]
  rw [if_neg g3]
  by_cases g4 : q % 9 + dy > 8
  · rw [if_pos g4, if_neg (by omega)]
  rw [if_neg g4, if_pos ⟨⟨by omega, by omega, by omega, by omega, by omega, by omega⟩, by omega, by omega, by omega, by omega⟩]
  have e1 : wrap64 (9 * (q / 9 + dx)) = 9 * (q / 9 + dx) := by unfold wrap64; omega
  rw [e1]
  have e2 : wrap64 (9 * (q / 9 + dx) + (q % 9 + dy)) = 9 * (q / 9 + dx) + (q % 9 + dy) := by unfold wrap64; omega
  rw [e2]
def turnI (side : Int) (d : S23) : Int × Int := if side = 1 then (-d.f0, -d.f1) else (d.f0, d.f1)
def stepFold (side q : Int) : List S23 → Nat × Nat → Nat × Nat
  | [], s => s
  | d :: l, s => stepFold side q l (add s (fromI (turnI side d).1 (turnI side d).2 q))
theorem fold_nil (side q : Int) (s : Nat × Nat) : stepFold side q [] s = s := rfl
theorem fold_cons (side q : Int) (d : S23) (l : List S23) (s : Nat × Nat) : stepFold side q (d :: l) s = stepFold side q l (add s (fromI (turnI side d).1 (turnI side d).2 q)) := rfl
theorem good_fold (side q : Int) (l : List S23) : ∀ s, Good s → Good (stepFold side q l s) := by
  induction l with
  | nil => intro s h; exact h
  | cons d l ih => intro s h; exact ih _ (good_add s _ h)
def small (l : List S23) : Bool := l.all fun d => decide (-8 ≤ d.f0) && decide (d.f0 ≤ 8) && decide (-8 ≤ d.f1) && decide (d.f1 ≤ 8)
theorem fold_is (p q side : Int) (kk : Nat) (hside : ∀ k, kk ≤ k → piece_Side.f k p = some side) (L : List S23) (hL : L.length ≤ 20) (hs : small L = true) : ∀ (d k i : Nat) (s : Nat × Nat), i ≤ L.length → L.length - i = d → d + kk + 5 < k → Good s →
    step_Of.l0 k p q L (L.length : Int) (i : Int) (s.1 : Int) (s.2 : Int) = some (((stepFold side q (L.drop i) s).1 : Int), ((stepFold side q (L.drop i) s).2 : Int)) := by
  intro d
  induction d with
  | zero =>
    intro k i s h1 h2 hk hg
    obtain ⟨k, rfl⟩ : ∃ m, k = m + 1 := ⟨k - 1, by omega⟩
    simp only [step_Of.l0]
    rw [if_neg (by omega), List.drop_eq_nil_of_le (by omega), fold_nil]
  | succ d ih =>
    intro k i s h1 h2 hk hg
    obtain ⟨k, rfl⟩ : ∃ m, k = m + 1 := ⟨k - 1, by omega⟩
    have hi : i < L.length := by omega
    have hrd : rd_T23 L (i : Int) = L[i] := by
      unfold rd_T23
      rw [Int.toNat_natCast, List.getD_eq_getElem?_getD, List.getElem?_eq_getElem hi]; rfl
    have hb := List.all_eq_true.1 hs L[i] (List.getElem_mem hi)
    simp only [Bool.and_eq_true, decide_eq_true_eq] at hb
    have ht : step_Dir_Turn.f (L[i]).f0 (L[i]).f1 side = some (turnI side L[i]) := by
      unfold step_Dir_Turn.f turnI
      by_cases h : side = 1
      · rw [if_pos h, if_pos h, show wrap64 (-(L[i]).f0) = -(L[i]).f0 by unfold wrap64; omega, show wrap64 (-(L[i]).f1) = -(L[i]).f1 by unfold wrap64; omega]
      · rw [if_neg h, if_neg h]
    simp only [step_Of.l0]
    obtain ⟨k', rfl⟩ : ∃ m, k = m + 1 := ⟨k - 1, by omega⟩
    rw [if_pos (by omega), if_pos (by omega), if_pos (by omega), hside (k' + 1) (by omega)]
    simp only [Option.bind_some]
    rw [hrd, ht]
    simp only [Option.bind_some]
    rw [from_is]
    simp only [Option.bind_some]
    have hw : wrap64 ((i : Int) + 1) = ((i + 1 : Nat) : Int) := by clear ih hside ht hrd hb hs; unfold wrap64; omega
    have hz := ih (k' + 1) (i + 1) (add s (fromI (turnI side L[i]).1 (turnI side L[i]).2 q)) (by omega) (by omega) (by omega) (good_add s _ hg)
    rw [with_is k' s _ hg, Option.bind_some]
    dsimp only
    rw [hw, hz, List.drop_eq_getElem_cons hi, fold_cons]

def hasI (s : Nat × Nat) (b : Int) : Bool := if 0 ≤ b ∧ b ≤ 80 then has s b.toNat else false
theorem hasI_is (k : Nat) (s : Nat × Nat) (b : Int) (h : Good s) : set_Set_Has.f (k + 1) (s.1 : Int) (s.2 : Int) b = some (hasI s b) := by
  unfold hasI
  by_cases hb : 0 ≤ b ∧ b ≤ 80
  · obtain ⟨n, rfl⟩ : ∃ n : Nat, b = n := ⟨b.toNat, by omega⟩
    rw [if_pos hb, has_is k s n h (by omega), Int.toNat_natCast]
  · rw [if_neg hb, has_no k s b h (by omega)]
def wayN : Nat → Int → Int → Int → Nat × Nat → Nat × Nat → Option (Nat × Nat)
  | 0, _, _, _, _, _ => none
  | n + 1, q, dx, dy, o, s => if q ≥ 0 then (if hasI o q = true then some (add s q) else wayN n (fromI dx dy q) dx dy o (add s q)) else some s
theorem way_l0 (dx dy : Int) (o : Nat × Nat) (go : Good o) : ∀ (n k : Nat) (q : Int) (s r : Nat × Nat), n < k → Good s → wayN n q dx dy o s = some r →
    ray_Way.l0 (k + 1) q dx dy (o.1 : Int) (o.2 : Int) (s.1 : Int) (s.2 : Int) = some ((r.1 : Int), (r.2 : Int)) ∧ Good r := by
  intro n
  induction n with
  | zero => intro k q s r _ _ h; simp [wayN] at h
  | succ n ih =>
    intro k q s r hk hg h
    obtain ⟨k, rfl⟩ : ∃ m, k = m + 1 := ⟨k - 1, by omega⟩
    simp only [wayN] at h
    have hrec := fun hz => ih k (fromI dx dy q) (add s q) r (by omega) (good_add s q hg) hz
    clear ih
    show ray_Way.l0 ((k + 1) + 1) _ _ _ _ _ _ _ = _ ∧ _
    rw [ray_Way.l0]
    by_cases hq : q ≥ 0
    · rw [if_pos hq] at h
      rw [if_pos hq, with_is k s q hg, Option.bind_some, hasI_is k o q go, Option.bind_some]
      by_cases hh : hasI o q = true
      · rw [if_pos hh] at h
        rw [if_pos hh]
        obtain rfl := Option.some.inj h
        exact ⟨rfl, good_add s q hg⟩
      · rw [if_neg hh] at h
        rw [if_neg hh, from_is, Option.bind_some]
        exact hrec h
    · rw [if_neg hq] at h
      rw [if_neg hq]
      obtain rfl := Option.some.inj h
      exact ⟨rfl, hg⟩
def without (s : Nat × Nat) (b : Int) : Nat × Nat := if 0 ≤ b ∧ b ≤ 80 then (s.1 &&& (18446744073709551615 - lo b.toNat), s.2 &&& (18446744073709551615 - hi b.toNat)) else s
theorem without_is (k : Nat) (s : Nat × Nat) (b : Int) (h : Good s) (hb : 0 ≤ b ∧ b ≤ 80) : set_Set_Without.f (k + 1) (s.1 : Int) (s.2 : Int) b = some (((without s b).1 : Int), ((without s b).2 : Int)) := by
  obtain ⟨n, rfl⟩ : ∃ n : Nat, b = n := ⟨b.toNat, by omega⟩
  unfold set_Set_Without.f
  rw [bit_in k n (by omega), Option.bind_some]
  have l1 := p64 h.1
  have l2 := q64 h.2
  have l3 := p64 (lo_lt n)
  have l4 := q64 (hi_lt n (by omega))
  simp only [set_Set_Minus.f, Option.bind_some]
  unfold without
  rw [if_pos hb, u64_andNot _ _ (by omega) (by omega) (by omega) (by omega), u64_andNot _ _ (by omega) (by omega) (by omega) (by omega)]
  simp
def betwL (a b : Int) : List S23 → Option (Nat × Nat)
  | [] => some (0, 0)
  | d :: l => match wayN 12 (fromI d.f0 d.f1 a) d.f0 d.f1 (add (0, 0) b) (0, 0) with
    | none => none
    | some w => if hasI w b = true then some (without w b) else betwL a b l
def dirs8 : List S23 := [⟨-1, -1⟩, ⟨1, -1⟩, ⟨-1, 1⟩, ⟨1, 1⟩, ⟨0, -1⟩, ⟨-1, 0⟩, ⟨1, 0⟩, ⟨0, 1⟩]
theorem of_one (k : Nat) (b : Int) : set_Of.f (k + 3) [b] = some (((add (0, 0) b).1 : Int), ((add (0, 0) b).2 : Int)) := by
  unfold set_Of.f
  rw [set_Of.l0]
  have := with_is (k + 1) (0, 0) b good0
  rw [if_pos (by show (0 : Int) < 1; decide), if_pos (by decide), if_pos (by show (0 : Int) < 1; decide)]
  show (set_Set_With.f (k + 1 + 1) ((0 : Nat) : Int) ((0 : Nat) : Int) b).bind _ = _
  rw [this, Option.bind_some, set_Of.l0]
  rw [if_neg (by show ¬ (wrap64 (0 + 1) < 1); unfold wrap64; decide)]
theorem betw_l0 (a b : Int) (k : Nat) (hk : 20 ≤ k) : ∀ (d i : Nat) (r : Nat × Nat), i ≤ 8 → 8 - i = d → betwL a b (dirs8.drop i) = some r →
    ray_Between.l0 (k + d + 1) a b dirs8 8 (i : Int) = some ((r.1 : Int), (r.2 : Int)) := by
  intro d
  induction d with
  | zero =>
    intro i r h1 h2 h
    have hi : i = 8 := by omega
    subst hi
    have hr : (0, 0) = r := Option.some.inj h
    subst hr
    rw [ray_Between.l0, if_neg (by decide)]
    rfl
  | succ d ih =>
    intro i r h1 h2 h
    have hi : i < dirs8.length := by show i < 8; omega
    have hrd : rd_T23 dirs8 (i : Int) = dirs8[i] := by
      unfold rd_T23
      rw [Int.toNat_natCast, List.getD_eq_getElem?_getD, List.getElem?_eq_getElem hi]; rfl
    have hne : ((dirs8[i]).f0 == 0 && ((dirs8[i]).f1 == 0)) = false := by
      have : ∀ i (h : i < 8), ((dirs8[i]'h).f0 == 0 && ((dirs8[i]'h).f1 == 0)) = false := by decide
      exact this i hi
    rw [List.drop_eq_getElem_cons hi] at h
    simp only [betwL] at h
    have hw : wrap64 ((i : Int) + 1) = ((i + 1 : Nat) : Int) := by clear ih h hrd hne; unfold wrap64; omega
    have hrec := fun hz => ih (i + 1) r (by omega) (by omega) hz
    clear ih
    have hlen : (i : Int) < (dirs8.length : Int) := by omega
    show ray_Between.l0 ((k + d + 1) + 1) _ _ _ _ _ = _
    rw [ray_Between.l0, if_pos (by omega), if_pos (by omega), if_pos hlen]
    obtain ⟨m, hm⟩ : ∃ m, k + d + 1 = m + 15 := ⟨k + d + 1 - 15, by omega⟩
    rw [hm] at hrec ⊢
    rw [of_one (m + 12) b, Option.bind_some, hrd]
    dsimp only
    cases hw12 : wayN 12 (fromI (dirs8[i]).f0 (dirs8[i]).f1 a) (dirs8[i]).f0 (dirs8[i]).f1 (add (0, 0) b) (0, 0) with
    | none => rw [hw12] at h; cases h
    | some w =>
      rw [hw12] at h
      simp only at h
      obtain ⟨hway, gw⟩ := way_l0 (dirs8[i]).f0 (dirs8[i]).f1 (add (0, 0) b) (good_add _ _ good0) 12 (m + 14) _ (0, 0) w (by omega) good0 hw12
      have hwayf : ray_Way.f (m + 15) a (dirs8[i]).f0 (dirs8[i]).f1 ((add (0, 0) b).1 : Int) ((add (0, 0) b).2 : Int) = some ((w.1 : Int), (w.2 : Int)) := by
        unfold ray_Way.f
        rw [if_neg (by rw [hne]; decide), from_is, Option.bind_some]
        exact hway
      rw [hwayf, Option.bind_some]
      dsimp only
      rw [hasI_is (m + 14) w b gw, Option.bind_some]
      by_cases hh : hasI w b = true
      · rw [if_pos hh] at h
        have hb : 0 ≤ b ∧ b ≤ 80 := by
          unfold hasI at hh
          split at hh
          · assumption
          · cases hh
        rw [if_pos hh, without_is (m + 14) w b gw hb, Option.bind_some]
        obtain rfl := Option.some.inj h
        rfl
      · rw [if_neg hh] at h
        rw [if_neg hh, hw]
        exact hrec h
theorem betw_is (a b : Int) (r : Nat × Nat) (h : betwL a b dirs8 = some r) : ray_Between.f 100 a b = some ((r.1 : Int), (r.2 : Int)) := by
  have d6 : ray_Dirs.f 100 6 = some [⟨-1, -1⟩, ⟨1, -1⟩, ⟨-1, 1⟩, ⟨1, 1⟩] := by kernel_rfl
  have d7 : ray_Dirs.f 100 7 = some [⟨0, -1⟩, ⟨-1, 0⟩, ⟨1, 0⟩, ⟨0, 1⟩] := by kernel_rfl
  unfold ray_Between.f
  rw [d6, Option.bind_some, d7, Option.bind_some, if_pos (by decide), Option.bind_some]
  exact betw_l0 a b 91 (by omega) 8 0 r (by omega) (by omega) h
/-- What the law asks of the set, of the document's list, and of the set the other way. -/
def ends (s : Nat × Nat) (l : List Int) (t : Nat × Nat) : Bool :=
  match set_Of.f 100 l, set_Set_Count.f s.1 s.2 with
  | some o, some n => (((s.1 : Int) == o.1 && ((s.2 : Int) == o.2))) && decide (n = (l.length : Int)) && ((t.1 : Int) == s.1 && ((t.2 : Int) == s.2))
  | _, _ => false
def ask (a b : Nat) : Bool := match betwL a b dirs8, betwL b a dirs8, kakugyoref04_Between.f 100 a b with
  | some s, some t, some l => ends s l t
  | _, _, _ => false
def askA (a : Nat) : Bool := (List.range 81).all fun b => ask a b
def askR (r : Nat) : Bool := (List.range 9).all fun j => askA (9 * r + j)
theorem ask0 : askR 0 = true := by decide +kernel
theorem ask1 : askR 1 = true := by decide +kernel
theorem ask2 : askR 2 = true := by decide +kernel
theorem ask3 : askR 3 = true := by decide +kernel
theorem ask4 : askR 4 = true := by decide +kernel
theorem ask5 : askR 5 = true := by decide +kernel
theorem ask6 : askR 6 = true := by decide +kernel
theorem ask7 : askR 7 = true := by decide +kernel
theorem ask8 : askR 8 = true := by decide +kernel
theorem ask_all (a : Nat) (h : a < 81) : askA a = true := by
  have hr : askR (a / 9) = true := by
    have : a / 9 < 9 := by omega
    generalize a / 9 = r at this
    obtain rfl | rfl | rfl | rfl | rfl | rfl | rfl | rfl | rfl : r = 0 ∨ r = 1 ∨ r = 2 ∨ r = 3 ∨ r = 4 ∨ r = 5 ∨ r = 6 ∨ r = 7 ∨ r = 8 := by omega
    · exact ask0
    · exact ask1
    · exact ask2
    · exact ask3
    · exact ask4
    · exact ask5
    · exact ask6
    · exact ask7
    · exact ask8
  have := List.all_eq_true.1 hr (a % 9) (List.mem_range.2 (by omega))
  rwa [show 9 * (a / 9) + a % 9 = a by omega] at this
theorem betw_outb (a b : Int) (hb : b < 0 ∨ 80 < b) (L : List S23) : betwL a b L = betwL a (-1) L := by
  have e1 : add (0, 0) b = add (0, 0) (-1) := by unfold add; rw [if_neg (by omega), if_neg (by omega)]
  have e2 : ∀ w, hasI w b = false := fun w => by unfold hasI; rw [if_neg (by omega)]
  have e3 : ∀ w, hasI w (-1) = false := fun w => by unfold hasI; rw [if_neg (by omega)]
  induction L with
  | nil => rfl
  | cons d l ih => simp only [betwL, e1, e2, e3, ih, Bool.false_eq_true, if_false]
theorem betw_outa (a b : Int) (ha : a < 0 ∨ 80 < a) (L : List S23) : betwL a b L = betwL (-1) b L := by
  have e1 : ∀ x y, fromI x y a = fromI x y (-1) := fun x y => by unfold fromI; rw [if_neg (by omega), if_neg (by omega)]
  induction L with
  | nil => rfl
  | cons d l ih => simp only [betwL, e1, ih]
def noneA : Bool := (List.range 81).all fun a => betwL (a : Int) (-1) dirs8 == some (0, 0)
def noneB : Bool := (List.range 81).all fun b => betwL (-1) (b : Int) dirs8 == some (0, 0)
theorem none_a : noneA = true := by decide +kernel
theorem none_b : noneB = true := by decide +kernel
theorem none_ab : betwL (-1) (-1) dirs8 = some (0, 0) := by decide +kernel
theorem betw_out (a b : Int) (h : (a < 0 ∨ 80 < a) ∨ (b < 0 ∨ 80 < b)) : betwL a b dirs8 = some (0, 0) := by
  by_cases ha : a < 0 ∨ 80 < a
  · rw [betw_outa a b ha]
    by_cases hb : b < 0 ∨ 80 < b
    · rw [betw_outb _ b hb]; exact none_ab
    · have := List.all_eq_true.1 none_b b.toNat (List.mem_range.2 (by omega))
      rw [beq_iff_eq, show ((b.toNat : Nat) : Int) = b by omega] at this
      exact this
  · rw [betw_outb a b (h.resolve_left ha)]
    have := List.all_eq_true.1 none_a a.toNat (List.mem_range.2 (by omega))
    rw [beq_iff_eq, show ((a.toNat : Nat) : Int) = a by omega] at this
    exact this
theorem ref_out (a b : Int) (h : (a < 0 ∨ 80 < a) ∨ (b < 0 ∨ 80 < b)) : kakugyoref04_Between.f 100 a b = some [] := by
  have hj : kakugyoref04_Line.j0 100 a b true = some 0 := by
    show kakugyoref04_Line.j0 (99 + 1) a b true = _
    rw [kakugyoref04_Line.j0, if_pos rfl]
  have hl : kakugyoref04_Line.f 100 a b = some 0 := by
    unfold kakugyoref04_Line.f
    by_cases g1 : a < 0
    · rw [if_pos g1, hj]
    rw [if_neg g1]
    by_cases g2 : a > 80
    · rw [if_pos g2, hj]
    rw [if_neg g2]
    by_cases g3 : b < 0
    · rw [if_pos g3, hj]
    rw [if_neg g3, if_pos (by omega), hj]
  unfold kakugyoref04_Between.f
  rw [hl, Option.bind_some, if_pos rfl]
theorem RayBetween : kakugyolaw04_RayBetween.Pure := by
  intro a b _ _
  refine ⟨100, ?_⟩
  have hn : kakugyolaw04_slides.f 100 = some true := by decide +kernel
  unfold kakugyolaw04_RayBetween.f
  rw [hn, Option.bind_some, if_pos rfl]
  by_cases h : (a < 0 ∨ 80 < a) ∨ (b < 0 ∨ 80 < b)
  · rw [betw_is a b _ (betw_out a b h), Option.bind_some, ref_out a b h, Option.bind_some]
    have h1 : set_Of.f 100 [] = some (0, 0) := by decide +kernel
    have h2 : set_Set_Count.f ((0 : Nat) : Int) ((0 : Nat) : Int) = some 0 := by decide +kernel
    rw [h1, Option.bind_some, if_pos (by decide)]
    dsimp only
    rw [h2, Option.bind_some, if_pos (by decide)]
    by_cases g1 : a < 0
    · rw [if_pos g1]
    rw [if_neg g1]
    by_cases g2 : a > 80
    · rw [if_pos g2]
    rw [if_neg g2]
    by_cases g3 : b < 0
    · rw [if_pos g3]
    rw [if_neg g3, if_pos (by omega)]
  · obtain ⟨x, rfl⟩ : ∃ n : Nat, a = n := ⟨a.toNat, by omega⟩
    obtain ⟨y, rfl⟩ : ∃ n : Nat, b = n := ⟨b.toNat, by omega⟩
    have ha := List.all_eq_true.1 (ask_all x (by omega)) y (List.mem_range.2 (by omega))
    unfold ask at ha
    cases h1 : betwL (x : Int) (y : Int) dirs8 with
    | none => rw [h1] at ha; cases ha
    | some s =>
    cases h2 : betwL (y : Int) (x : Int) dirs8 with
    | none => rw [h1, h2] at ha; cases ha
    | some t =>
    cases h3 : kakugyoref04_Between.f 100 (x : Int) (y : Int) with
    | none => rw [h1, h2, h3] at ha; cases ha
    | some l =>
    rw [h1, h2, h3] at ha
    simp only at ha
    unfold ends at ha
    cases h4 : set_Of.f 100 l with
    | none => rw [h4] at ha; cases ha
    | some o =>
    cases h5 : set_Set_Count.f (s.1 : Int) (s.2 : Int) with
    | none => rw [h4, h5] at ha; cases ha
    | some n =>
    rw [h4, h5] at ha
    simp only at ha
    rw [Bool.and_eq_true, Bool.and_eq_true, decide_eq_true_eq] at ha
    rw [betw_is _ _ s h1, Option.bind_some, Option.bind_some, h4, Option.bind_some, if_pos ha.1.1]
    dsimp only
    rw [h5, Option.bind_some, if_pos ha.1.2, if_neg (by omega), if_neg (by omega), if_neg (by omega), if_neg (by omega), betw_is _ _ t h2, Option.bind_some, ha.2]

end Go.Proofs.Ytmoeodcmfjnihaa.Pure
