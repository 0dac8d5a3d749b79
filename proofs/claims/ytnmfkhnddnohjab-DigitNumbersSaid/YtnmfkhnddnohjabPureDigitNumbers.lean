/- For every number and every text the law DigitNumbers answers true: the numbers 0 to 9999 one by one, and a text is a number just if it is the digits of one. -/
import Derived.Test.YtnmfkhnddnohjabPax4
import Derived.Test.YtnmfkhnddnohjabPax3
import Derived.Test.YtnmfkhnddnohjabPax1
import Derived.Lib.MapLaws
import Derived.OpenShut
namespace Go.Proofs.Ytnmfkhnddnohjab.Pure
open Go.RowKit Go.Proofs.Ytnmfkhnddnohjab.Pa Go.Proofs.YtnmfkhnddnohjabW.PrintWords Go.Proofs.YtnmfkhnddnohjabW.PrintLast
set_option linter.unusedVariables false
set_option linter.unusedSimpArgs false

theorem all_i8 (P : Int → Bool) (h : (List.range 256).all (fun n => P ((n : Int) - 128)) = true) (a : Int) (ha : (Lit.int .i8 a).wf = true) : P a = true := by
  have hb := bounds_i8 ha
  have := List.all_eq_true.1 h (a + 128).toNat (List.mem_range.2 (by omega))
  rw [show (((a + 128).toNat : Nat) : Int) - 128 = a by omega] at this
  exact this
theorem all_to (m : Nat) (P : Int → Bool) (h : (List.range m).all (fun n => P (n : Int)) = true) (a : Int) (h0 : 0 ≤ a) (h1 : a < m) : P a = true := by
  have := List.all_eq_true.1 h a.toNat (List.mem_range.2 (by omega))
  rw [show ((a.toNat : Nat) : Int) = a by omega] at this
  exact this
theorem of_beq_some {o : Option Bool} (h : (o == some true) = true) : o = some true := by simpa using h

def digs (m : Nat) : List UInt8 :=
  if m < 10 then [UInt8.ofNat (48 + m)] else if m < 100 then [UInt8.ofNat (48 + m / 10), UInt8.ofNat (48 + m % 10)]
  else if m < 1000 then [UInt8.ofNat (48 + m / 100), UInt8.ofNat (48 + m / 10 % 10), UInt8.ofNat (48 + m % 10)] else [UInt8.ofNat (48 + m / 1000), UInt8.ofNat (48 + m / 100 % 10), UInt8.ofNat (48 + m / 10 % 10), UInt8.ofNat (48 + m % 10)]
theorem one_byte (v : Int) (m : Nat) (h : v = (m : Int)) : strOfNums [v] = ⟨#[UInt8.ofNat m]⟩ := by
  subst h
  apply ByteArray.ext
  apply Array.toList_inj.1
  rw [strOfNums_data]
  simp
theorem wr (x : Nat) (h : x < 10) : (wrap64 (48 + (x : Int))) % 256 = ((48 + x : Nat) : Int) := by unfold wrap64; omega
/-- The reference's digits, from the last one on. -/
theorem dig_last (k x : Nat) (acc : List UInt8) (hx : x < 10) (ha : acc.length ≤ 10) : kakugyoref15_Digits.l0 (k + 1) (x : Int) ⟨acc.toArray⟩ = some ⟨(UInt8.ofNat (48 + x) :: acc).toArray⟩ := by
  simp only [kakugyoref15_Digits.l0]
  rw [if_neg (by omega), wr x hx]
  simp only [Option.bind_some]
  rw [one_byte _ (48 + x) rfl]
  have e1 : (⟨#[UInt8.ofNat (48 + x)]⟩ : ByteArray).size = 1 := rfl
  have e2 : (⟨acc.toArray⟩ : ByteArray).size = acc.length := rfl
  rw [e1, e2, if_pos (by omega)]
  congr 1
theorem dig_step (k x : Nat) (acc : List UInt8) (hx : 9 < x) (hx2 : x < 10000) (ha : acc.length ≤ 10) : kakugyoref15_Digits.l0 (k + 1) (x : Int) ⟨acc.toArray⟩ = kakugyoref15_Digits.l0 k ((x / 10 : Nat) : Int) ⟨(UInt8.ofNat (48 + x % 10) :: acc).toArray⟩ := by
  simp only [kakugyoref15_Digits.l0]
  have t1 : Int.tmod (x : Int) 10 = ((x % 10 : Nat) : Int) := by rw [Int.tmod_eq_emod_of_nonneg (by omega)]; omega
  have t2 : wrap64 (Int.tdiv (x : Int) 10) = ((x / 10 : Nat) : Int) := by rw [Int.tdiv_eq_ediv_of_nonneg (by omega)]; unfold wrap64; omega
  rw [if_pos (by omega), t1, t2, wr (x % 10) (by omega)]
  simp only [Option.bind_some]
  rw [one_byte _ (48 + x % 10) rfl]
  have e1 : (⟨#[UInt8.ofNat (48 + x % 10)]⟩ : ByteArray).size = 1 := rfl
  have e2 : (⟨acc.toArray⟩ : ByteArray).size = acc.length := rfl
  rw [e1, e2, if_pos (by omega)]
  congr 1
theorem digits_of (m : Nat) (h : m < 10000) (k : Nat) (hk : 6 ≤ k) : kakugyoref15_Digits.f k (m : Int) = some ⟨(digs m).toArray⟩ := by
  refine at_rounds (g := fun k => kakugyoref15_Digits.f k (m : Int)) (fun k => kakugyoref15_Digits.mono _ k) hk ?_
  show kakugyoref15_Digits.l0 (5 + 1) (m : Int) ⟨([] : List UInt8).toArray⟩ = _
  unfold digs
  by_cases h1 : m < 10
  · rw [if_pos h1, dig_last 5 m [] h1 (by simp)]
  rw [if_neg h1, dig_step 5 m [] (by omega) h (by simp)]
  by_cases h2 : m < 100
  · rw [if_pos h2]
    show kakugyoref15_Digits.l0 (4 + 1) _ _ = _
    rw [dig_last 4 (m / 10) _ (by omega) (by simp)]
  rw [if_neg h2]
  show kakugyoref15_Digits.l0 (4 + 1) _ _ = _
  rw [dig_step 4 (m / 10) _ (by omega) (by omega) (by simp)]
  by_cases h3 : m < 1000
  · rw [if_pos h3]
    show kakugyoref15_Digits.l0 (3 + 1) _ _ = _
    rw [dig_last 3 (m / 10 / 10) _ (by omega) (by simp), show m / 10 / 10 = m / 100 by omega]
  rw [if_neg h3]
  show kakugyoref15_Digits.l0 (3 + 1) _ _ = _
  rw [dig_step 3 (m / 10 / 10) _ (by omega) (by omega) (by simp)]
  show kakugyoref15_Digits.l0 (2 + 1) _ _ = _
  rw [dig_last 2 (m / 10 / 10 / 10) _ (by omega) (by simp), show m / 10 / 10 / 10 = m / 1000 by omega, show m / 10 / 10 = m / 100 by omega]
/-- One step of the program's loop, by the byte that stands there. -/
def okB (b : UInt8) : Prop := 48 ≤ b.toNat ∧ b.toNat ≤ 57
theorem go_step (s : ByteArray) (g pos : Nat) (n : Int) : digit_Number.go s (g + 1) pos n =
    if pos < s.size then
      (if (48 ≤ (s.data.toList.getD pos 0).toNat ∧ (s.data.toList.getD pos 0).toNat ≤ 57) ∧ pos ≠ 4 ∧ ¬ (pos = 1 ∧ n = 0) then digit_Number.go s g (pos + 1) (10 * n + (((s.data.toList.getD pos 0).toNat : Int) - 48)) else some (-1))
    else some (if s.size = 0 then -1 else n) := by
  simp only [digit_Number.go]
  by_cases hp : pos < s.size
  · rw [if_pos hp, if_pos hp, Lib.decode_N]
    generalize (s.data.toList.getD pos 0).toNat = b0
    generalize (s.data.toList.getD (pos + 1) 0).toNat = b1
    generalize (s.data.toList.getD (pos + 2) 0).toNat = b2
    generalize (s.data.toList.getD (pos + 3) 0).toNat = b3
    by_cases hb : b0 < 128
    · have e : Lib.decodeN (s.data.toList.length - pos) b0 b1 b2 b3 = (b0, 1) := by
        unfold Lib.decodeN
        rw [if_pos hb]
      rw [e]
      dsimp only
      by_cases h : (48 ≤ b0 ∧ b0 ≤ 57) ∧ pos ≠ 4 ∧ ¬ (pos = 1 ∧ n = 0)
      · rw [if_pos h, if_neg (by omega)]
      · rw [if_neg h, if_pos (by omega)]
    · have e : 57 < (Lib.decodeN (s.data.toList.length - pos) b0 b1 b2 b3).1 := by
        rcases Lib.decodeN_shape (s.data.toList.length - pos) b0 b1 b2 b3 with ⟨c, e⟩ | ⟨c1, c2, c3, cv, e⟩ | ⟨c1, c2, c3, c4, cv, cs, e⟩ | ⟨c1, c2, c3, c4, c5, cv, cw, e⟩ | e
        all_goals
          rw [e]
          dsimp only
          omega
      rw [if_pos (by omega), if_neg (by omega)]
  · rw [if_neg hp, if_neg hp]
theorem byte_nat (m : Nat) (h : m < 10) : (UInt8.ofNat (48 + m)).toNat = 48 + m := by simp; omega
theorem number_of (m : Nat) (h : m < 10000) : digit_Number.f ⟨(digs m).toArray⟩ = some (m : Int) := by
  unfold digit_Number.f digs
  by_cases h1 : m < 10
  · rw [if_pos h1, go_step]
    have e0 := byte_nat m h1
    generalize UInt8.ofNat (48 + m) = a at *
    have s0 : (⟨([a] : List UInt8).toArray⟩ : ByteArray).size = 1 := rfl
    have g0 : ((⟨([a] : List UInt8).toArray⟩ : ByteArray).data.toList.getD 0 0) = a := rfl
    rw [s0, g0, if_pos (by omega), if_pos (by omega), go_step, s0, if_neg (by omega), if_neg (by omega)]
    congr 1; omega
  rw [if_neg h1]
  by_cases h2 : m < 100
  · rw [if_pos h2, go_step]
    have e0 := byte_nat (m / 10) (by omega)
    have e1 := byte_nat (m % 10) (by omega)
    generalize UInt8.ofNat (48 + m / 10) = a at *
    generalize UInt8.ofNat (48 + m % 10) = b at *
    have s0 : (⟨([a, b] : List UInt8).toArray⟩ : ByteArray).size = 2 := rfl
    have g0 : ((⟨([a, b] : List UInt8).toArray⟩ : ByteArray).data.toList.getD 0 0) = a := rfl
    have g1 : ((⟨([a, b] : List UInt8).toArray⟩ : ByteArray).data.toList.getD (0 + 1) 0) = b := rfl
    rw [s0, g0, if_pos (by omega), if_pos (by omega), go_step, s0, g1, if_pos (by omega), if_pos (by omega), go_step, s0, if_neg (by omega), if_neg (by omega)]
    congr 1; omega
  rw [if_neg h2]
  by_cases h3 : m < 1000
  · rw [if_pos h3, go_step]
    have e0 := byte_nat (m / 100) (by omega)
    have e1 := byte_nat (m / 10 % 10) (by omega)
    have e2 := byte_nat (m % 10) (by omega)
    generalize UInt8.ofNat (48 + m / 100) = a at *
    generalize UInt8.ofNat (48 + m / 10 % 10) = b at *
    generalize UInt8.ofNat (48 + m % 10) = c at *
    have s0 : (⟨([a, b, c] : List UInt8).toArray⟩ : ByteArray).size = 3 := rfl
    have g0 : ((⟨([a, b, c] : List UInt8).toArray⟩ : ByteArray).data.toList.getD 0 0) = a := rfl
    have g1 : ((⟨([a, b, c] : List UInt8).toArray⟩ : ByteArray).data.toList.getD (0 + 1) 0) = b := rfl
    have g2 : ((⟨([a, b, c] : List UInt8).toArray⟩ : ByteArray).data.toList.getD (0 + 1 + 1) 0) = c := rfl
    rw [s0, g0, if_pos (by omega), if_pos (by omega), go_step, s0, g1, if_pos (by omega), if_pos (by omega), go_step, s0, g2, if_pos (by omega), if_pos (by omega), go_step, s0, if_neg (by omega), if_neg (by omega)]
    congr 1; omega
  rw [if_neg h3, go_step]
  have e0 := byte_nat (m / 1000) (by omega)
  have e1 := byte_nat (m / 100 % 10) (by omega)
  have e2 := byte_nat (m / 10 % 10) (by omega)
  have e3 := byte_nat (m % 10) (by omega)
  generalize UInt8.ofNat (48 + m / 1000) = a at *
  generalize UInt8.ofNat (48 + m / 100 % 10) = b at *
  generalize UInt8.ofNat (48 + m / 10 % 10) = c at *
  generalize UInt8.ofNat (48 + m % 10) = d at *
  have s0 : (⟨([a, b, c, d] : List UInt8).toArray⟩ : ByteArray).size = 4 := rfl
  have g0 : ((⟨([a, b, c, d] : List UInt8).toArray⟩ : ByteArray).data.toList.getD 0 0) = a := rfl
  have g1 : ((⟨([a, b, c, d] : List UInt8).toArray⟩ : ByteArray).data.toList.getD (0 + 1) 0) = b := rfl
  have g2 : ((⟨([a, b, c, d] : List UInt8).toArray⟩ : ByteArray).data.toList.getD (0 + 1 + 1) 0) = c := rfl
  have g3 : ((⟨([a, b, c, d] : List UInt8).toArray⟩ : ByteArray).data.toList.getD (0 + 1 + 1 + 1) 0) = d := rfl
  rw [s0, g0, if_pos (by omega), if_pos (by omega), go_step, s0, g1, if_pos (by omega), if_pos (by omega), go_step, s0, g2, if_pos (by omega), if_pos (by omega), go_step, s0, g3, if_pos (by omega), if_pos (by omega), go_step, s0, if_neg (by omega), if_neg (by omega)]
  congr 1; omega
/-- What is written of a number: blanks, and its digits. -/
theorem pad_of (m : Nat) (h : m < 10000) : ∃ z, z + (digs m).length = 4 ∧ digit_Pad.f (m : Int) = some ⟨(List.replicate z 32 ++ digs m).toArray⟩ := by
  have hb : ∀ (l : List Int) (q : List UInt8), l.map (fun n => UInt8.ofNat n.toNat) = q → strOfNums l = ⟨q.toArray⟩ := by
    intro l q e
    apply ByteArray.ext
    apply Array.toList_inj.1
    rw [strOfNums_data, e]
  have p0 : ∀ x : Nat, (48 + (x : Int) % 10).toNat = 48 + x % 10 := fun x => by omega
  unfold digit_Pad.f
  rw [if_neg (by omega), if_neg (by omega)]
  unfold digs
  by_cases h1 : m < 10
  · refine ⟨3, by rw [if_pos h1]; rfl, ?_⟩
    rw [if_pos h1]
    congr 1
    apply hb
    simp only [digit_Pad.loop]
    rw [if_pos (.inr trivial), if_neg (by omega)]
    show ([32, 32, 32, UInt8.ofNat (48 + (m : Int) % 10).toNat] : List UInt8) = [32, 32, 32, UInt8.ofNat (48 + m)]
    rw [show (48 + (m : Int) % 10).toNat = 48 + m by omega]
  rw [if_neg h1]
  by_cases h2 : m < 100
  · refine ⟨2, by rw [if_pos h2]; rfl, ?_⟩
    rw [if_pos h2]
    congr 1
    apply hb
    simp only [digit_Pad.loop]
    rw [if_pos (by omega), if_pos (by omega), if_neg (by omega)]
    show ([32, 32, UInt8.ofNat (48 + (m : Int) / 10 % 10).toNat, UInt8.ofNat (48 + (m : Int) % 10).toNat] : List UInt8) = [32, 32, UInt8.ofNat (48 + m / 10), UInt8.ofNat (48 + m % 10)]
    rw [show (48 + (m : Int) / 10 % 10).toNat = 48 + m / 10 by omega, show (48 + (m : Int) % 10).toNat = 48 + m % 10 by omega]
  rw [if_neg h2]
  by_cases h3 : m < 1000
  · refine ⟨1, by rw [if_pos h3]; rfl, ?_⟩
    rw [if_pos h3]
    congr 1
    apply hb
    simp only [digit_Pad.loop]
    rw [if_pos (by omega), if_pos (by omega), if_pos (by omega), if_neg (by omega)]
    show ([32, UInt8.ofNat (48 + (m : Int) / 10 / 10 % 10).toNat, UInt8.ofNat (48 + (m : Int) / 10 % 10).toNat, UInt8.ofNat (48 + (m : Int) % 10).toNat] : List UInt8) = [32, UInt8.ofNat (48 + m / 100), UInt8.ofNat (48 + m / 10 % 10), UInt8.ofNat (48 + m % 10)]
    rw [show (48 + (m : Int) / 10 / 10 % 10).toNat = 48 + m / 100 by omega, show (48 + (m : Int) / 10 % 10).toNat = 48 + m / 10 % 10 by omega, show (48 + (m : Int) % 10).toNat = 48 + m % 10 by omega]
  refine ⟨0, by rw [if_neg h3]; rfl, ?_⟩
  rw [if_neg h3]
  congr 1
  apply hb
  simp only [digit_Pad.loop]
  rw [if_pos (by omega), if_pos (by omega), if_pos (by omega), if_pos (by omega)]
  show ([UInt8.ofNat (48 + (m : Int) / 10 / 10 / 10 % 10).toNat, UInt8.ofNat (48 + (m : Int) / 10 / 10 % 10).toNat, UInt8.ofNat (48 + (m : Int) / 10 % 10).toNat, UInt8.ofNat (48 + (m : Int) % 10).toNat] : List UInt8) = [UInt8.ofNat (48 + m / 1000), UInt8.ofNat (48 + m / 100 % 10), UInt8.ofNat (48 + m / 10 % 10), UInt8.ofNat (48 + m % 10)]
  rw [show (48 + (m : Int) / 10 / 10 / 10 % 10).toNat = 48 + m / 1000 by omega, show (48 + (m : Int) / 10 / 10 % 10).toNat = 48 + m / 100 % 10 by omega, show (48 + (m : Int) / 10 % 10).toNat = 48 + m / 10 % 10 by omega, show (48 + (m : Int) % 10).toNat = 48 + m % 10 by omega]
theorem digs_inj (a b : Nat) (ha : a < 10000) (hb : b < 10000) (h : digs a = digs b) : a = b := by
  have h1 := number_of a ha
  have h2 := number_of b hb
  rw [h] at h1
  have := Option.some.inj (h1.symm.trans h2)
  omega
theorem digs_len (m : Nat) : (digs m).length ≤ 4 := by
  unfold digs
  repeat' split
  all_goals simp
/-- The reference's loop. -/
theorem ref_hit (s : ByteArray) (m : Nat) (hm : m < 10000) (hs : s.data.toList = digs m) : ∀ (d k i : Nat), i ≤ m → m - i = d → d + 10 < k → kakugyoref15_Number.l0 k s (i : Int) = some (m : Int) := by
  have hsz : s.size ≤ 4 := by
    have := digs_len m
    rw [← hs] at this
    exact this
  intro d
  induction d with
  | zero =>
    intro k i h1 h2 hk
    obtain ⟨k, rfl⟩ : ∃ q, k = q + 1 := ⟨k - 1, by omega⟩
    obtain rfl : i = m := by omega
    simp only [kakugyoref15_Number.l0]
    rw [if_pos (by omega), if_pos (by omega), digits_of i hm k (by omega)]
    simp only [Option.bind_some]
    rw [if_pos (by rw [ByteArray.toList_eq, ByteArray.toList_eq, hs])]
  | succ d ih =>
    intro k i h1 h2 hk
    obtain ⟨k, rfl⟩ : ∃ q, k = q + 1 := ⟨k - 1, by omega⟩
    have hw : wrap64 ((i : Int) + 1) = ((i + 1 : Nat) : Int) := by unfold wrap64; omega
    simp only [kakugyoref15_Number.l0]
    rw [if_pos (by omega), if_pos (by omega), digits_of i (by omega) k (by omega)]
    simp only [Option.bind_some]
    rw [if_neg ?_, hw]
    · exact ih k (i + 1) (by omega) (by omega) (by omega)
    · rw [ByteArray.toList_eq, ByteArray.toList_eq, hs]
      intro e
      have := digs_inj i m (by omega) hm e
      omega
theorem ref_miss (s : ByteArray) (hs : ∀ m, m < 10000 → s.data.toList ≠ digs m) : ∀ (d k i : Nat), i ≤ 10000 → 10000 - i = d → d + 10 < k → kakugyoref15_Number.l0 k s (i : Int) = some (-1) := by
  intro d
  induction d with
  | zero =>
    intro k i h1 h2 hk
    obtain ⟨k, rfl⟩ : ∃ q, k = q + 1 := ⟨k - 1, by omega⟩
    simp only [kakugyoref15_Number.l0]
    rw [if_neg (by omega)]
  | succ d ih =>
    intro k i h1 h2 hk
    obtain ⟨k, rfl⟩ : ∃ q, k = q + 1 := ⟨k - 1, by omega⟩
    have hw : wrap64 ((i : Int) + 1) = ((i + 1 : Nat) : Int) := by unfold wrap64; omega
    simp only [kakugyoref15_Number.l0]
    rw [if_pos (by omega), hw]
    by_cases h4 : (s.size : Int) ≤ 4
    · rw [if_pos h4, digits_of i (by omega) k (by omega)]
      simp only [Option.bind_some]
      rw [if_neg ?_]
      · exact ih k (i + 1) (by omega) (by omega) (by omega)
      · rw [ByteArray.toList_eq, ByteArray.toList_eq]
        exact fun e => hs i (by omega) e.symm
    · rw [if_neg h4]
      exact ih k (i + 1) (by omega) (by omega) (by omega)
theorem byte_is (b : UInt8) (m : Nat) (h : b.toNat = 48 + m) : b = UInt8.ofNat (48 + m) := by
  rw [← h]; simp
/-- What the program tells of a text: the number whose digits it is, or none. -/
theorem number_is (s : ByteArray) : (∃ m, m < 10000 ∧ s.data.toList = digs m) ∨ digit_Number.f s = some (-1) := by
  have hsz : s.size = s.data.toList.length := rfl
  unfold digit_Number.f
  rw [go_step]
  by_cases p0 : 0 < s.size
  case neg => right; rw [if_neg p0, if_pos (by omega)]
  rw [if_pos p0]
  by_cases c0 : (48 ≤ (s.data.toList.getD 0 0).toNat ∧ (s.data.toList.getD 0 0).toNat ≤ 57) ∧ (0 : Nat) ≠ 4 ∧ ¬ ((0 : Nat) = 1 ∧ (0 : Int) = 0)
  case neg => right; rw [if_neg c0]
  rw [if_pos c0, go_step]
  by_cases p1 : 0 + 1 < s.size
  case neg =>
    left
    have h1 : s.data.toList.length = 1 := by omega
    obtain ⟨a, ha⟩ : ∃ a, s.data.toList = [a] := List.length_eq_one_iff.1 h1
    rw [ha] at c0 ⊢
    have e0 : ([a] : List UInt8).getD 0 0 = a := rfl
    rw [e0] at c0
    refine ⟨a.toNat - 48, by omega, ?_⟩
    unfold digs
    rw [if_pos (by omega), ← byte_is a _ (by omega)]
  rw [if_pos p1]
  by_cases c1 : (48 ≤ (s.data.toList.getD (0 + 1) 0).toNat ∧ (s.data.toList.getD (0 + 1) 0).toNat ≤ 57) ∧ 0 + 1 ≠ 4 ∧ ¬ (0 + 1 = 1 ∧ 10 * (0 : Int) + (((s.data.toList.getD 0 0).toNat : Int) - 48) = 0)
  case neg => right; rw [if_neg c1]
  rw [if_pos c1, go_step]
  by_cases p2 : 0 + 1 + 1 < s.size
  case neg =>
    left
    have h1 : s.data.toList.length = 2 := by omega
    obtain ⟨a, b, ha⟩ : ∃ a b, s.data.toList = [a, b] := by
      match s.data.toList, h1 with
      | [a, b], _ => exact ⟨a, b, rfl⟩
    rw [ha] at c0 c1 ⊢
    have e0 : ([a, b] : List UInt8).getD 0 0 = a := rfl
    have e1 : ([a, b] : List UInt8).getD (0 + 1) 0 = b := rfl
    rw [e0] at c0
    rw [e0, e1] at c1
    refine ⟨(a.toNat - 48) * 10 + (b.toNat - 48), by omega, ?_⟩
    unfold digs
    rw [if_neg (by omega), if_pos (by omega), ← byte_is a _ (by omega), ← byte_is b _ (by omega)]
  rw [if_pos p2]
  by_cases c2 : (48 ≤ (s.data.toList.getD (0 + 1 + 1) 0).toNat ∧ (s.data.toList.getD (0 + 1 + 1) 0).toNat ≤ 57) ∧ 0 + 1 + 1 ≠ 4 ∧ ¬ (0 + 1 + 1 = 1 ∧ 10 * (10 * (0 : Int) + (((s.data.toList.getD 0 0).toNat : Int) - 48)) + (((s.data.toList.getD (0 + 1) 0).toNat : Int) - 48) = 0)
  case neg => right; rw [if_neg c2]
  rw [if_pos c2, go_step]
  by_cases p3 : 0 + 1 + 1 + 1 < s.size
  case neg =>
    left
    have h1 : s.data.toList.length = 3 := by omega
    obtain ⟨a, b, c, ha⟩ : ∃ a b c, s.data.toList = [a, b, c] := by
      match s.data.toList, h1 with
      | [a, b, c], _ => exact ⟨a, b, c, rfl⟩
    rw [ha] at c0 c1 c2 ⊢
    have e0 : ([a, b, c] : List UInt8).getD 0 0 = a := rfl
    have e1 : ([a, b, c] : List UInt8).getD (0 + 1) 0 = b := rfl
    have e2 : ([a, b, c] : List UInt8).getD (0 + 1 + 1) 0 = c := rfl
    rw [e0] at c0
    rw [e0, e1] at c1
    rw [e2] at c2
    have k2 := c2.1
    clear c2
    refine ⟨(a.toNat - 48) * 100 + (b.toNat - 48) * 10 + (c.toNat - 48), by omega, ?_⟩
    unfold digs
    rw [if_neg (by omega), if_neg (by omega), if_pos (by omega), ← byte_is a _ (by omega), ← byte_is b _ (by omega), ← byte_is c _ (by omega)]
  rw [if_pos p3]
  by_cases c3 : (48 ≤ (s.data.toList.getD (0 + 1 + 1 + 1) 0).toNat ∧ (s.data.toList.getD (0 + 1 + 1 + 1) 0).toNat ≤ 57) ∧ 0 + 1 + 1 + 1 ≠ 4 ∧ ¬ (0 + 1 + 1 + 1 = 1 ∧ 10 * (10 * (10 * (0 : Int) + (((s.data.toList.getD 0 0).toNat : Int) - 48)) + (((s.data.toList.getD (0 + 1) 0).toNat : Int) - 48)) + (((s.data.toList.getD (0 + 1 + 1) 0).toNat : Int) - 48) = 0)
  case neg => right; rw [if_neg c3]
  rw [if_pos c3, go_step]
  by_cases p4 : 0 + 1 + 1 + 1 + 1 < s.size
  case pos => right; rw [if_pos p4, if_neg (fun h => h.2.1 rfl)]
  left
  have h1 : s.data.toList.length = 4 := by omega
  obtain ⟨a, b, c, d, ha⟩ : ∃ a b c d, s.data.toList = [a, b, c, d] := by
    match s.data.toList, h1 with
    | [a, b, c, d], _ => exact ⟨a, b, c, d, rfl⟩
  rw [ha] at c0 c1 c2 c3 ⊢
  have e0 : ([a, b, c, d] : List UInt8).getD 0 0 = a := rfl
  have e1 : ([a, b, c, d] : List UInt8).getD (0 + 1) 0 = b := rfl
  have e2 : ([a, b, c, d] : List UInt8).getD (0 + 1 + 1) 0 = c := rfl
  have e3 : ([a, b, c, d] : List UInt8).getD (0 + 1 + 1 + 1) 0 = d := rfl
  rw [e0] at c0
  rw [e0, e1] at c1
  rw [e2] at c2
  rw [e3] at c3
  have k2 := c2.1
  have k3 := c3.1
  clear c2 c3
  refine ⟨(a.toNat - 48) * 1000 + (b.toNat - 48) * 100 + (c.toNat - 48) * 10 + (d.toNat - 48), by omega, ?_⟩
  unfold digs
  rw [if_neg (by omega), if_neg (by omega), if_neg (by omega), ← byte_is a _ (by omega), ← byte_is b _ (by omega), ← byte_is c _ (by omega), ← byte_is d _ (by omega)]
theorem both (s : ByteArray) : ∃ v, digit_Number.f s = some v ∧ kakugyoref15_Number.f 10020 s = some v := by
  by_cases h : ∃ m, m < 10000 ∧ s.data.toList = digs m
  · obtain ⟨m, hm, e⟩ := h
    have es : s = ⟨(digs m).toArray⟩ := ByteArray.ext (Array.toList_inj.1 e)
    exact ⟨m, by rw [es]; exact number_of m hm, ref_hit s m hm e m 10020 0 (by omega) (by omega) (by omega)⟩
  · exact ⟨-1, (number_is s).resolve_left h, ref_miss s (fun m hm e => h ⟨m, hm, e⟩) 10000 10020 0 (by omega) (by omega) (by omega)⟩
theorem DigitNumbers : kakugyolaw15_DigitNumbers.Pure := by
  intro n s _ _
  refine ⟨10022, ?_⟩
  have hn : kakugyolaw15_writes.f = some true := by decide +kernel
  obtain ⟨v, v1, v2'⟩ := both s
  have v2 : ∀ k, 10020 ≤ k → kakugyoref15_Number.f k s = some v := fun k hk => at_rounds (g := fun k => kakugyoref15_Number.f k s) (fun k => kakugyoref15_Number.mono _ k) hk v2'
  unfold kakugyolaw15_DigitNumbers.f
  rw [hn]
  simp only [Option.bind_some, if_true]
  by_cases h : 0 ≤ n ∧ n < 10000
  · obtain ⟨m, rfl⟩ : ∃ m : Nat, n = m := ⟨n.toNat, by omega⟩
    have hm : m < 10000 := by omega
    obtain ⟨z, hz, hp⟩ := pad_of m hm
    rw [hp]
    simp only [Option.bind_some]
    rw [if_neg (by omega), decide_eq_false (show ¬ (m : Int) > 9999 by omega)]
    show kakugyolaw15_DigitNumbers.j0 (10021 + 1) _ _ _ _ = _
    simp only [kakugyolaw15_DigitNumbers.j0]
    rw [if_neg (by decide), digits_of m hm 10021 (by omega)]
    simp only [Option.bind_some]
    have hno := number_of m hm
    generalize digs m = D at *
    have q0 : (⟨(List.replicate z 32 ++ D).toArray⟩ : ByteArray).size = 4 := by
      show (List.replicate z (32 : UInt8) ++ D).length = 4
      rw [List.length_append, List.length_replicate, hz]
    have q1 : (⟨D.toArray⟩ : ByteArray).size = D.length := rfl
    have q2 : wrap64 (4 - (D.length : Int)) = (z : Int) := by unfold wrap64; omega
    have q3 : ((⟨(List.replicate z 32 ++ D).toArray⟩ : ByteArray).extract z 4).toList = (⟨D.toArray⟩ : ByteArray).toList := by
      rw [ByteArray.toList_eq, ByteArray.toList_eq, Lib.extract_data]
      show ((List.replicate z (32 : UInt8) ++ D).drop z).take (4 - z) = D
      rw [List.drop_append, List.drop_eq_nil_of_le (by simp), List.length_replicate, Nat.sub_self, List.drop_zero, List.nil_append]
      exact List.take_of_length_le (by omega)
    have q4 : ((⟨(List.replicate z 32 ++ D).toArray⟩ : ByteArray).extract 0 z).toList = ((⟨#[32, 32, 32, 32]⟩ : ByteArray).extract 0 z).toList := by
      rw [ByteArray.toList_eq, ByteArray.toList_eq, Lib.extract_data, Lib.extract_data]
      show ((List.replicate z (32 : UInt8) ++ D).drop 0).take (z - 0) = (([32, 32, 32, 32] : List UInt8).drop 0).take (z - 0)
      rw [List.drop_zero, List.drop_zero, Nat.sub_zero, List.take_append_of_le_length (by simp), List.take_of_length_le (by simp)]
      have hz4 : z ≤ 4 := by omega
      obtain rfl | rfl | rfl | rfl | rfl : z = 0 ∨ z = 1 ∨ z = 2 ∨ z = 3 ∨ z = 4 := by omega
      all_goals rfl
    rw [q0, q1, q2, Int.toNat_natCast, if_pos (by rfl), if_pos (by omega), if_pos (by omega), if_pos q3, if_pos (by omega), if_pos q4, hno]
    simp only [Option.bind_some]
    rw [show ((m : Int) != (m : Int)) = false by simp]
    show kakugyolaw15_DigitNumbers.j1 (10020 + 1) _ _ = _
    simp only [kakugyolaw15_DigitNumbers.j1]
    rw [if_neg (by decide), v1, v2 10020 (by omega)]
    simp
  · have hp : digit_Pad.f n = some ⟨#[]⟩ := by
      unfold digit_Pad.f
      by_cases g : n < 0
      · rw [if_pos g]
      · rw [if_neg g, if_pos (by omega)]
    have hj : kakugyolaw15_DigitNumbers.j0 10022 n s ⟨#[]⟩ true = some true := by
      show kakugyolaw15_DigitNumbers.j0 (10021 + 1) _ _ _ _ = _
      simp only [kakugyolaw15_DigitNumbers.j0]
      rw [if_pos trivial, if_pos (by rw [ByteArray.toList_eq]), v1, v2 10021 (by omega)]
      simp
    rw [hp]
    simp only [Option.bind_some]
    by_cases g : n < 0
    · rw [if_pos g, hj]
    · rw [if_neg g, decide_eq_true (show n > 9999 by omega), hj]

end Go.Proofs.Ytnmfkhnddnohjab.Pure
