/- For every text the law DigitCuts answers true: it begins with one of the 81 squares' six bytes, or with none. -/
import Derived.Test.YtnmfkhnddnohjabPax3
import Derived.Test.YtnmfkhnddnohjabPax2
import Derived.Lib.MapLaws
import Derived.OpenShut
namespace Go.Proofs.Ytnmfkhnddnohjab.Pure
open Go.RowKit Go.Proofs.Ytnmfkhnddnohjab.Pa Go.Proofs.YtnmfkhnddnohjabW.PrintWords Go.Proofs.YtnmfkhnddnohjabW.PrintLast
set_option linter.unusedVariables false
set_option linter.unusedSimpArgs false

theorem lt256 (x : UInt8) : x.toNat < 256 := UInt8.toNat_lt x
/-- A rune of three bytes was decoded: the bytes are just its own. -/
theorem dec_three (s : ByteArray) (pos : Nat) (h0 : 2048 ≤ (Utf8.decode s pos).1) (h1 : (Utf8.decode s pos).1 < 65536) (h2 : (Utf8.decode s pos).1 ≠ 65533) :
    (Utf8.decode s pos).2 = 3 ∧ pos + 2 < s.data.toList.length ∧ (s.data.toList.getD pos 0).toNat = 224 + (Utf8.decode s pos).1 / 4096 ∧ (s.data.toList.getD (pos + 1) 0).toNat = 128 + (Utf8.decode s pos).1 / 64 % 64 ∧ (s.data.toList.getD (pos + 2) 0).toNat = 128 + (Utf8.decode s pos).1 % 64 := by
  rw [Lib.decode_N] at h0 h1 h2 ⊢
  have k0 := lt256 (s.data.toList.getD pos 0)
  have k1 := lt256 (s.data.toList.getD (pos + 1) 0)
  have k2 := lt256 (s.data.toList.getD (pos + 2) 0)
  have k3 := lt256 (s.data.toList.getD (pos + 3) 0)
  generalize (s.data.toList.getD pos 0).toNat = b0 at *
  generalize (s.data.toList.getD (pos + 1) 0).toNat = b1 at *
  generalize (s.data.toList.getD (pos + 2) 0).toNat = b2 at *
  generalize (s.data.toList.getD (pos + 3) 0).toNat = b3 at *
  rcases Lib.decodeN_shape (s.data.toList.length - pos) b0 b1 b2 b3 with ⟨c, e⟩ | ⟨c1, c2, c3, cv, e⟩ | ⟨c1, c2, c3, c4, cv, cs, e⟩ | ⟨c1, c2, c3, c4, c5, cv, cw, e⟩ | e
  all_goals
    rw [e] at h0 h1 h2 ⊢
    dsimp only at h0 h1 h2 ⊢
  · omega
  · omega
  · refine ⟨rfl, by omega, by omega, by omega, by omega⟩
  · omega
  · omega
/-- Three bytes of one rune. -/
theorem three_dec (s : ByteArray) (pos b0 b1 b2 : Nat) (hl : pos + 2 < s.data.toList.length) (e0 : (s.data.toList.getD pos 0).toNat = b0) (e1 : (s.data.toList.getD (pos + 1) 0).toNat = b1) (e2 : (s.data.toList.getD (pos + 2) 0).toNat = b2)
    (h0 : b0 / 16 = 14) (h1 : b1 / 64 = 2) (h2 : b2 / 64 = 2) (h3 : 2048 ≤ b0 % 16 * 4096 + b1 % 64 * 64 + b2 % 64) (h4 : b0 % 16 * 4096 + b1 % 64 * 64 + b2 % 64 < 55296 ∨ 57344 ≤ b0 % 16 * 4096 + b1 % 64 * 64 + b2 % 64) :
    Utf8.decode s pos = (b0 % 16 * 4096 + b1 % 64 * 64 + b2 % 64, 3) := by
  rw [Lib.decode_N, e0, e1, e2]
  unfold Lib.decodeN
  rw [if_neg (by omega), if_neg (by omega), if_pos ⟨h0, ⟨by omega, h1⟩, ⟨by omega, h2⟩⟩, if_pos ⟨h3, by omega⟩]
theorem bytes_eq {a b : ByteArray} (h : a.data.toList = b.data.toList) : a = b := ByteArray.ext (Array.toList_inj.1 h)

theorem sq_wrap (x y : Nat) (hx : x < 9) (hy : y < 9) : wrap64 (wrap64 (9 * (x : Int)) + (y : Int)) = 9 * (x : Int) + (y : Int) := by
  have h1 : wrap64 (9 * (x : Int)) = 9 * (x : Int) := by unfold wrap64; omega
  rw [h1]
  unfold wrap64
  omega
def fullB (x : Nat) : List UInt8 := [239, 188, UInt8.ofNat (145 + x)]
def wordB (y : Nat) : List UInt8 := (digit_Word.str.data.toList.drop (3 * y)).take 3
def sqB (q : Nat) : List UInt8 := fullB (q / 9) ++ wordB (q % 9)
theorem sq_is : ∀ q : Nat, q < 81 → digit_Square.f (q : Int) = some ⟨(sqB q).toArray⟩ ∧ kakugyoref15_Square.f (q : Int) = some ⟨(sqB q).toArray⟩ ∧ (sqB q).length = 6 := by decide +kernel
theorem sq_apart : ∀ q, q < 81 → ∀ p, p < 81 → sqB q = sqB p → q = p := by decide +kernel
theorem sq_dec : ∀ q, q < 81 → (sqB q).getD 0 0 = 239 ∧ (sqB q).getD 1 0 = 188 ∧ ((sqB q).getD 2 0).toNat = 145 + q / 9 ∧ ((sqB q).getD 3 0).toNat / 16 = 14 ∧ ((sqB q).getD 4 0).toNat / 64 = 2 ∧ ((sqB q).getD 5 0).toNat / 64 = 2 ∧ ((sqB q).getD 3 0).toNat % 16 * 4096 + ((sqB q).getD 4 0).toNat % 64 * 64 + ((sqB q).getD 5 0).toNat % 64 = digit_Word.tab.getD (q % 9) 0 ∧ 2048 ≤ digit_Word.tab.getD (q % 9) 0 ∧ digit_Word.tab.getD (q % 9) 0 < 55296 ∧ digit_FromWord.val ((digit_Word.tab.getD (q % 9) 0 : Nat) : Int) = (q % 9 : Nat) + 1 ∧ (Utf8.encode ((digit_Word.tab.getD (q % 9) 0 : Nat) : Int)).size = 3 := by decide +kernel
/-- A text that begins with a square. -/
theorem cut_hit (q : Nat) (hq : q < 81) (s rest : ByteArray) (hs : s.data.toList = sqB q ++ rest.data.toList) (hz : s.size ≤ 140737488355328) : digit_Cut.f s = some ((q : Int), rest) := by
  obtain ⟨-, -, h6⟩ := sq_is q hq
  obtain ⟨d0, d1, d2, d3, d4, d5, dv, dlo, dhi, dw, de⟩ := sq_dec q hq
  have hlen : s.data.toList.length = 6 + rest.data.toList.length := by rw [hs, List.length_append, h6]
  have hsz : s.size = s.data.toList.length := rfl
  have g : ∀ i, i < 6 → s.data.toList.getD i 0 = (sqB q).getD i 0 := by
    intro i hi
    rw [hs, List.getD_eq_getElem?_getD, List.getD_eq_getElem?_getD, List.getElem?_append_left (by omega)]
  have c0 : Utf8.decode s 0 = (65297 + q / 9, 3) := by
    have := three_dec s 0 239 188 (145 + q / 9) (by omega) (by rw [g 0 (by omega), d0]; rfl) (by rw [g 1 (by omega), d1]; rfl) (by rw [g 2 (by omega), d2]) (by omega) (by omega) (by omega) (by omega) (by omega)
    rw [this, (by decide : ∀ x, x < 9 → 239 % 16 * 4096 + 188 % 64 * 64 + (145 + x) % 64 = 65297 + x) (q / 9) (by omega)]
  have c3 : Utf8.decode s 3 = (digit_Word.tab.getD (q % 9) 0, 3) := by
    have := three_dec s 3 _ _ _ (by omega) (by rw [g 3 (by omega)]) (by rw [g 4 (by omega)]) (by rw [g 5 (by omega)]) d3 d4 d5 (by omega) (by omega)
    rw [this, dv]
  clear d0 d1 d2 d3 d4 d5 dv dlo dhi g
  have z0 : ¬ s.size = 0 := by omega
  have z3 : 3 < s.size := by omega
  have z6 : 3 + 3 ≤ s.size := by omega
  unfold digit_Cut.f
  rw [if_neg z0, c0]
  simp only
  rw [if_pos z3, c3]
  simp only
  rw [de]
  have f1 : digit_FromFull.f ((65297 + q / 9 : Nat) : Int) = some (((q / 9 : Nat) : Int) + 1) := by
    unfold digit_FromFull.f
    rw [if_neg (by omega), if_neg (by omega), show wrap64 (wrap32 (((65297 + q / 9 : Nat) : Int) - 65296)) = ((q / 9 : Nat) : Int) + 1 by unfold wrap64 wrap32; omega]
  rw [f1]
  simp only [Option.bind_some]
  have f2 : digit_FromWord.f ((digit_Word.tab.getD (q % 9) 0 : Nat) : Int) = some (((q % 9 : Nat) : Int) + 1) := by
    unfold digit_FromWord.f; rw [dw]
  rw [f2]
  simp only [Option.bind_some]
  have f3 : set_Square.f (wrap64 (((q / 9 : Nat) : Int) + 1 - 1)) (wrap64 (((q % 9 : Nat) : Int) + 1 - 1)) = some (q : Int) := by
    have e1 : wrap64 (((q / 9 : Nat) : Int) + 1 - 1) = ((q / 9 : Nat) : Int) := by unfold wrap64; omega
    have e2 : wrap64 (((q % 9 : Nat) : Int) + 1 - 1) = ((q % 9 : Nat) : Int) := by unfold wrap64; omega
    rw [e1, e2]
    unfold set_Square.f
    rw [if_neg (by omega), if_neg (by omega), if_neg (by omega), if_neg (by omega), sq_wrap _ _ (show q / 9 < 9 by omega) (show q % 9 < 9 by omega), show 9 * ((q / 9 : Nat) : Int) + ((q % 9 : Nat) : Int) = (q : Int) by omega]
  rw [f3]
  simp only [Option.bind_some]
  rw [if_pos (Int.natCast_nonneg q), if_pos ⟨z6, hz⟩]
  have e4 : s.extract (3 + 3) s.size = rest := by
    apply bytes_eq
    rw [Lib.extract_data, hs]
    simp only [hsz, hlen]
    rw [List.drop_append, List.drop_eq_nil_of_le (by omega), h6]
    simp only [List.nil_append]
    rw [show 3 + 3 - 6 = 0 from rfl, List.drop_zero]
    exact List.take_of_length_le (by omega)
  rw [e4]
/-- A text that does not. -/
theorem cut_miss (s : ByteArray) (hz : s.size ≤ 140737488355328) (hno : ∀ q, q < 81 → ∀ rest : List UInt8, s.data.toList ≠ sqB q ++ rest) : digit_Cut.f s = some (-1, s) := by
  unfold digit_Cut.f
  by_cases h0 : s.size = 0
  · rw [if_pos h0]
  rw [if_neg h0]
  have hF : ∃ t, digit_FromFull.f ((Utf8.decode s 0).1 : Int) = some t ∧ (t = 0 ∨ (65297 ≤ (Utf8.decode s 0).1 ∧ (Utf8.decode s 0).1 ≤ 65305 ∧ t = ((Utf8.decode s 0).1 : Int) - 65296)) := by
    unfold digit_FromFull.f
    by_cases a : ((Utf8.decode s 0).1 : Int) < 65297
    · exact ⟨0, by rw [if_pos a], .inl rfl⟩
    · by_cases b : ((Utf8.decode s 0).1 : Int) > 65305
      · exact ⟨0, by rw [if_neg a, if_pos b], .inl rfl⟩
      · exact ⟨_, by rw [if_neg a, if_neg b], .inr ⟨by omega, by omega, by unfold wrap64 wrap32; omega⟩⟩
  obtain ⟨t, ht, ht'⟩ := hF
  rw [ht]
  simp only [Option.bind_some]
  by_cases hk : (Utf8.decode s 0).2 < s.size
  · rw [if_pos hk]
    obtain ⟨K, hK⟩ : ∃ K, (Utf8.decode s 0).2 = K := ⟨_, rfl⟩
    rw [hK] at hk ⊢
    have hW : ∃ u, digit_FromWord.f ((Utf8.decode s K).1 : Int) = some u ∧ (u = 0 ∨ ∃ y : Nat, y < 9 ∧ (Utf8.decode s K).1 = digit_Word.tab.getD y 0 ∧ u = (y : Int) + 1) := by
      refine ⟨_, rfl, ?_⟩
      by_cases hin : ∃ y : Nat, y < 9 ∧ (Utf8.decode s K).1 = digit_Word.tab.getD y 0
      · obtain ⟨y, hy, e⟩ := hin
        refine .inr ⟨y, hy, e, ?_⟩
        rw [e]
        exact (digit_FromWord.dec y hy).2.2
      · left
        exact digit_FromWord.valOut _ fun q hq e => hin ⟨q, hq, by have : digit_FromWord.tab.getD q 0 = digit_Word.tab.getD q 0 := rfl; omega⟩
    obtain ⟨u, hu, hu'⟩ := hW
    rw [hu]
    simp only [Option.bind_some]
    have hneg : set_Square.f (wrap64 (t - 1)) (wrap64 (u - 1)) = some (-1) := by
      unfold set_Square.f
      rcases ht' with rfl | ⟨a, b, rfl⟩
      · rw [if_pos (by unfold wrap64; omega)]
      · have e1 : wrap64 (((Utf8.decode s 0).1 : Int) - 65296 - 1) = ((Utf8.decode s 0).1 : Int) - 65297 := by unfold wrap64; omega
        rw [e1, if_neg (by omega), if_neg (by omega)]
        rcases hu' with rfl | ⟨y, hy, e, rfl⟩
        · rw [if_pos (by unfold wrap64; omega)]
        · exfalso
          obtain ⟨x, hx⟩ : ∃ x : Nat, (Utf8.decode s 0).1 = 65297 + x := ⟨(Utf8.decode s 0).1 - 65297, by omega⟩
          have hx9 : x < 9 := by omega
          obtain ⟨k3, l0, a0, a1, a2⟩ := dec_three s 0 (by omega) (by omega) (by omega)
          have hK3 : K = 3 := by omega
          subst hK3
          have htab : 2048 ≤ digit_Word.tab.getD y 0 ∧ digit_Word.tab.getD y 0 < 50000 := by
            obtain rfl | rfl | rfl | rfl | rfl | rfl | rfl | rfl | rfl : y = 0 ∨ y = 1 ∨ y = 2 ∨ y = 3 ∨ y = 4 ∨ y = 5 ∨ y = 6 ∨ y = 7 ∨ y = 8 := by omega
            all_goals decide
          obtain ⟨k3', l3, w0, w1, w2⟩ := dec_three s 3 (by omega) (by omega) (by omega)
          have hq : 9 * x + y < 81 := by omega
          have hy' : (9 * x + y) % 9 = y := by omega
          have hx' : (9 * x + y) / 9 = x := by omega
          obtain ⟨d0, d1, d2, d3, d4, d5, dv, -⟩ := sq_dec (9 * x + y) hq
          rw [hy'] at dv
          rw [hx'] at d2
          have v3 := lt256 ((sqB (9 * x + y)).getD 3 0)
          have v4 := lt256 ((sqB (9 * x + y)).getD 4 0)
          have v5 := lt256 ((sqB (9 * x + y)).getD 5 0)
          apply hno (9 * x + y) hq (s.data.toList.drop 6)
          have h6 := (sq_is (9 * x + y) hq).2.2
          rw [e] at w0 w1 w2
          rw [hx] at a0 a1 a2
          rw [Nat.zero_add] at a1 a2
          have w1' : (s.data.toList.getD 4 0).toNat = _ := w1
          have w2' : (s.data.toList.getD 5 0).toNat = _ := w2
          have hg : ∀ i, i < 6 → s.data.toList.getD i 0 = (sqB (9 * x + y)).getD i 0 := by
            intro i hi
            obtain rfl | rfl | rfl | rfl | rfl | rfl : i = 0 ∨ i = 1 ∨ i = 2 ∨ i = 3 ∨ i = 4 ∨ i = 5 := by omega
            · rw [d0]; apply UInt8.toNat_inj.1; rw [a0]; show _ = 239; omega
            · rw [d1]; apply UInt8.toNat_inj.1; rw [a1]; show _ = 188; omega
            · apply UInt8.toNat_inj.1; rw [a2, d2]; omega
            · apply UInt8.toNat_inj.1; omega
            · apply UInt8.toNat_inj.1; omega
            · apply UInt8.toNat_inj.1; omega
          have htake : s.data.toList.take 6 = sqB (9 * x + y) := by
            apply List.ext_getElem
            · rw [List.length_take, h6]; omega
            · intro i h1 h2
              have hi : i < 6 := by rw [h6] at h2; exact h2
              have := hg i hi
              rw [List.getD_eq_getElem?_getD, List.getD_eq_getElem?_getD, List.getElem?_eq_getElem (by omega), List.getElem?_eq_getElem h2] at this
              simpa using this
          rw [← htake, List.take_append_drop]
    rw [hneg]
    simp only [Option.bind_some]
    rw [if_neg (by decide)]
  · rw [if_neg hk, if_pos hz]

theorem ext_take (s : ByteArray) (n : Nat) : (s.extract 0 n).toList = s.data.toList.take n := by
  rw [ByteArray.toList_eq, Lib.extract_data]
  simp
theorem ref_step (s : ByteArray) (k i : Nat) (hi : i < 81) (r : Option (Int × ByteArray))
    (h : (if s.data.toList.take 6 = sqB i ∧ 6 ≤ s.size then some ((i : Int), s.extract 6 s.size) else kakugyoref15_Cut.l0 k s ((i : Int) + 1)) = r) : kakugyoref15_Cut.l0 (k + 1) s (i : Int) = r := by
  obtain ⟨-, h2, h6⟩ := sq_is i hi
  have hz : (⟨(sqB i).toArray⟩ : ByteArray).size = 6 := h6
  have hw : wrap64 ((i : Int) + 1) = (i : Int) + 1 := by unfold wrap64; omega
  simp only [kakugyoref15_Cut.l0]
  rw [if_pos (by omega), h2]
  simp only [Option.bind_some]
  rw [hz, hw]
  rw [← h]
  by_cases g : 6 ≤ s.size
  · rw [if_pos (by omega), if_pos (by omega), if_pos (by omega)]
    rw [show (((6 : Nat) : Int)).toNat = 6 from rfl, ext_take]
    rw [show (⟨(sqB i).toArray⟩ : ByteArray).toList = sqB i by rw [ByteArray.toList_eq]]
    by_cases e : s.data.toList.take 6 = sqB i
    · rw [if_pos e, if_pos ⟨e, g⟩]
    · rw [if_neg e, if_neg (fun h => e h.1)]
  · rw [if_neg (by omega), if_neg (fun h => g h.2)]
theorem ref_hit (s : ByteArray) (q : Nat) (hq : q < 81) (hs : s.data.toList.take 6 = sqB q) (h6 : 6 ≤ s.size) : ∀ (d k i : Nat), i ≤ q → q - i = d → d < k → kakugyoref15_Cut.l0 k s (i : Int) = some ((q : Int), s.extract 6 s.size) := by
  intro d
  induction d with
  | zero =>
    intro k i h1 h2 hk
    obtain ⟨k, rfl⟩ : ∃ m, k = m + 1 := ⟨k - 1, by omega⟩
    obtain rfl : i = q := by omega
    exact ref_step s k i hq _ (if_pos ⟨hs, h6⟩)
  | succ d ih =>
    intro k i h1 h2 hk
    obtain ⟨k, rfl⟩ : ∃ m, k = m + 1 := ⟨k - 1, by omega⟩
    refine ref_step s k i (by omega) _ ?_
    rw [if_neg (fun h => by have := sq_apart i (by omega) q hq (h.1.symm.trans hs); omega)]
    exact ih k (i + 1) (by omega) (by omega) (by omega)
theorem ref_miss (s : ByteArray) (hno : ∀ q, q < 81 → ¬ (s.data.toList.take 6 = sqB q ∧ 6 ≤ s.size)) : ∀ (d k i : Nat), i ≤ 81 → 81 - i = d → d < k → kakugyoref15_Cut.l0 k s (i : Int) = some (-1, s) := by
  intro d
  induction d with
  | zero =>
    intro k i h1 h2 hk
    obtain ⟨k, rfl⟩ : ∃ m, k = m + 1 := ⟨k - 1, by omega⟩
    simp only [kakugyoref15_Cut.l0]
    rw [if_neg (by omega)]
  | succ d ih =>
    intro k i h1 h2 hk
    obtain ⟨k, rfl⟩ : ∃ m, k = m + 1 := ⟨k - 1, by omega⟩
    refine ref_step s k i (by omega) _ ?_
    rw [if_neg (hno i (by omega))]
    exact ih k (i + 1) (by omega) (by omega) (by omega)
theorem DigitCuts : kakugyolaw15_DigitCuts.Pure := by
  intro s hs
  refine ⟨90, ?_⟩
  have hn : kakugyolaw15_writes.f = some true := by decide +kernel
  unfold kakugyolaw15_DigitCuts.f
  rw [hn]
  simp only [Option.bind_some, if_true]
  by_cases h : ∃ q, q < 81 ∧ s.data.toList.take 6 = sqB q ∧ 6 ≤ s.size
  · obtain ⟨q, hq, e, h6⟩ := h
    have hrest : (s.extract 6 s.size).data.toList = s.data.toList.drop 6 := by
      rw [Lib.extract_data]
      exact List.take_of_length_le (by rw [List.length_drop]; exact Nat.le_refl _)
    have h1 : digit_Cut.f s = some ((q : Int), s.extract 6 s.size) := cut_hit q hq s _ (by rw [hrest, ← e, List.take_append_drop]) (by omega)
    have h2 : kakugyoref15_Cut.f 90 s = some ((q : Int), s.extract 6 s.size) := ref_hit s q hq e h6 q 90 0 (by omega) (by omega) (by omega)
    rw [h1, h2]
    simp only [Option.bind_some]
    rw [if_pos trivial]
    simp
  · have h1 : digit_Cut.f s = some (-1, s) := cut_miss s (by omega) fun q hq rest e => h ⟨q, hq, by
      obtain ⟨-, -, h6⟩ := sq_is q hq
      have hl : s.size = (sqB q ++ rest).length := congrArg List.length e
      rw [List.length_append, h6] at hl
      exact ⟨by rw [e, List.take_append_of_le_length (by omega), List.take_of_length_le (by omega)], by omega⟩⟩
    have h2 : kakugyoref15_Cut.f 90 s = some (-1, s) := ref_miss s (fun q hq g => h ⟨q, hq, g⟩) 81 90 0 (by omega) (by omega) (by omega)
    rw [h1, h2]
    simp only [Option.bind_some]
    rw [if_pos trivial]
    simp

end Go.Proofs.Ytnmfkhnddnohjab.Pure
