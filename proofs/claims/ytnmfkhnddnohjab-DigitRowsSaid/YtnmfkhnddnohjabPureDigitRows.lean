/- For every list of numbers and every text the law DigitRows answers true: the squares of the list stand one behind the other, and each cut takes the first of them. -/
import Derived.Test.YtnmfkhnddnohjabPax5
import Derived.Test.YtnmfkhnddnohjabPax2
import Derived.Lib.MapLaws
import Derived.OpenShut
namespace Go.Proofs.Ytnmfkhnddnohjab.Pure
open Go.RowKit Go.Proofs.Ytnmfkhnddnohjab.Pa Go.Proofs.YtnmfkhnddnohjabW.PrintWords Go.Proofs.YtnmfkhnddnohjabW.PrintLast
set_option linter.unusedVariables false
set_option linter.unusedSimpArgs false

theorem lt256 (x : UInt8) : x.toNat < 256 := UInt8.toNat_lt x
/-- A rune of three bytes was decoded: the bytes are just its own. -/
theorem dec_three (s : ByteArray) (pos : Nat) (h0 : 2048 ≤ (Utf8.decode s pos).1) (h1 : (Utf8.decode s pos).1 < 65536) (h2 : (Utf8.decode s pos).1 ≠ 65533) :
    (Utf8.decode s pos).2 = 3 ∧ pos + 2 < s.data.toList.length ∧ (s.data.toList.getD pos 0).toNat = 224 + (Utf8.decode s pos).1 / 4096 ∧ (s.data.toList.getD (pos + 1) 0).toNat = 128 + (Utf8.decode s pos).1 / 64 % 64 ∧ (s.data.toList.getD (pos + 2) 0).toNat = 128 + (Utf8.decode s pos).1 % 64 := by
  rw [Lib.decode_N] at h0 h1 h2 ⊢
  have k0 := lt256 (s.data.toList.getD pos 0)
  have k1 := lt256 (s.data.toList.getD (pos + 1) 0)
  have k2 := lt256 (s.data.toList.getD (pos + 2) 0)
  have k3 := lt256 (s.data.toList.getD (pos + 3) 0)
  generalize (s.data.toList.getD pos 0).toNat = b0 at *
  generalize (s.data.toList.getD (pos + 1) 0).toNat = b1 at *
  generalize (s.data.toList.getD (pos + 2) 0).toNat = b2 at *
  generalize (s.data.toList.getD (pos + 3) 0).toNat = b3 at *
  rcases Lib.decodeN_shape (s.data.toList.length - pos) b0 b1 b2 b3 with ⟨c, e⟩ | ⟨c1, c2, c3, cv, e⟩ | ⟨c1, c2, c3, c4, cv, cs, e⟩ | ⟨c1, c2, c3, c4, c5, cv, cw, e⟩ | e
  all_goals
    rw [e] at h0 h1 h2 ⊢
    dsimp only at h0 h1 h2 ⊢
  · omega
  · omega
  · refine ⟨rfl, by omega, by omega, by omega, by omega⟩
  · omega
  · omega
/-- Three bytes of one rune. -/
theorem three_dec (s : ByteArray) (pos b0 b1 b2 : Nat) (hl : pos + 2 < s.data.toList.length) (e0 : (s.data.toList.getD pos 0).toNat = b0) (e1 : (s.data.toList.getD (pos + 1) 0).toNat = b1) (e2 : (s.data.toList.getD (pos + 2) 0).toNat = b2)
    (h0 : b0 / 16 = 14) (h1 : b1 / 64 = 2) (h2 : b2 / 64 = 2) (h3 : 2048 ≤ b0 % 16 * 4096 + b1 % 64 * 64 + b2 % 64) (h4 : b0 % 16 * 4096 + b1 % 64 * 64 + b2 % 64 < 55296 ∨ 57344 ≤ b0 % 16 * 4096 + b1 % 64 * 64 + b2 % 64) :
    Utf8.decode s pos = (b0 % 16 * 4096 + b1 % 64 * 64 + b2 % 64, 3) := by
  rw [Lib.decode_N, e0, e1, e2]
  unfold Lib.decodeN
  rw [if_neg (by omega), if_neg (by omega), if_pos ⟨h0, ⟨by omega, h1⟩, ⟨by omega, h2⟩⟩, if_pos ⟨h3, by omega⟩]
theorem bytes_eq {a b : ByteArray} (h : a.data.toList = b.data.toList) : a = b := ByteArray.ext (Array.toList_inj.1 h)

theorem sq_wrap (x y : Nat) (hx : x < 9) (hy : y < 9) : wrap64 (wrap64 (9 * (x : Int)) + (y : Int)) = 9 * (x : Int) + (y : Int) := by
  have h1 : wrap64 (9 * (x : Int)) = 9 * (x : Int) := by unfold wrap64; omega
  rw [h1]
  unfold wrap64
  omega
def fullB (x : Nat) : List UInt8 := [239, 188, UInt8.ofNat (145 + x)]
def wordB (y : Nat) : List UInt8 := (digit_Word.str.data.toList.drop (3 * y)).take 3
def sqB (q : Nat) : List UInt8 := fullB (q / 9) ++ wordB (q % 9)
theorem sq_is : ∀ q : Nat, q < 81 → digit_Square.f (q : Int) = some ⟨(sqB q).toArray⟩ ∧ kakugyoref15_Square.f (q : Int) = some ⟨(sqB q).toArray⟩ ∧ (sqB q).length = 6 := by decide +kernel
theorem sq_apart : ∀ q, q < 81 → ∀ p, p < 81 → sqB q = sqB p → q = p := by decide +kernel
theorem sq_dec : ∀ q, q < 81 → (sqB q).getD 0 0 = 239 ∧ (sqB q).getD 1 0 = 188 ∧ ((sqB q).getD 2 0).toNat = 145 + q / 9 ∧ ((sqB q).getD 3 0).toNat / 16 = 14 ∧ ((sqB q).getD 4 0).toNat / 64 = 2 ∧ ((sqB q).getD 5 0).toNat / 64 = 2 ∧ ((sqB q).getD 3 0).toNat % 16 * 4096 + ((sqB q).getD 4 0).toNat % 64 * 64 + ((sqB q).getD 5 0).toNat % 64 = digit_Word.tab.getD (q % 9) 0 ∧ 2048 ≤ digit_Word.tab.getD (q % 9) 0 ∧ digit_Word.tab.getD (q % 9) 0 < 55296 ∧ digit_FromWord.val ((digit_Word.tab.getD (q % 9) 0 : Nat) : Int) = (q % 9 : Nat) + 1 ∧ (Utf8.encode ((digit_Word.tab.getD (q % 9) 0 : Nat) : Int)).size = 3 := by decide +kernel
/-- A text that begins with a square. -/
theorem cut_hit (q : Nat) (hq : q < 81) (s rest : ByteArray) (hs : s.data.toList = sqB q ++ rest.data.toList) (hz : s.size ≤ 140737488355328) : digit_Cut.f s = some ((q : Int), rest) := by
  obtain ⟨-, -, h6⟩ := sq_is q hq
  obtain ⟨d0, d1, d2, d3, d4, d5, dv, dlo, dhi, dw, de⟩ := sq_dec q hq
  have hlen : s.data.toList.length = 6 + rest.data.toList.length := by rw [hs, List.length_append, h6]
  have hsz : s.size = s.data.toList.length := rfl
  have g : ∀ i, i < 6 → s.data.toList.getD i 0 = (sqB q).getD i 0 := by
    intro i hi
    rw [hs, List.getD_eq_getElem?_getD, List.getD_eq_getElem?_getD, List.getElem?_append_left (by omega)]
  have c0 : Utf8.decode s 0 = (65297 + q / 9, 3) := by
    have := three_dec s 0 239 188 (145 + q / 9) (by omega) (by rw [g 0 (by omega), d0]; rfl) (by rw [g 1 (by omega), d1]; rfl) (by rw [g 2 (by omega), d2]) (by omega) (by omega) (by omega) (by omega) (by omega)
    rw [this, (by decide : ∀ x, x < 9 → 239 % 16 * 4096 + 188 % 64 * 64 + (145 + x) % 64 = 65297 + x) (q / 9) (by omega)]
  have c3 : Utf8.decode s 3 = (digit_Word.tab.getD (q % 9) 0, 3) := by
    have := three_dec s 3 _ _ _ (by omega) (by rw [g 3 (by omega)]) (by rw [g 4 (by omega)]) (by rw [g 5 (by omega)]) d3 d4 d5 (by omega) (by omega)
    rw [this, dv]
  clear d0 d1 d2 d3 d4 d5 dv dlo dhi g
  have z0 : ¬ s.size = 0 := by omega
  have z3 : 3 < s.size := by omega
  have z6 : 3 + 3 ≤ s.size := by omega
  unfold digit_Cut.f
  rw [if_neg z0, c0]
  simp only
  rw [if_pos z3, c3]
  simp only
  rw [de]
  have f1 : digit_FromFull.f ((65297 + q / 9 : Nat) : Int) = some (((q / 9 : Nat) : Int) + 1) := by
    unfold digit_FromFull.f
    rw [if_neg (by omega), if_neg (by omega), show wrap64 (wrap32 (((65297 + q / 9 : Nat) : Int) - 65296)) = ((q / 9 : Nat) : Int) + 1 by unfold wrap64 wrap32; omega]
  rw [f1]
  simp only [Option.bind_some]
  have f2 : digit_FromWord.f ((digit_Word.tab.getD (q % 9) 0 : Nat) : Int) = some (((q % 9 : Nat) : Int) + 1) := by
    unfold digit_FromWord.f; rw [dw]
  rw [f2]
  simp only [Option.bind_some]
  have f3 : set_Square.f (wrap64 (((q / 9 : Nat) : Int) + 1 - 1)) (wrap64 (((q % 9 : Nat) : Int) + 1 - 1)) = some (q : Int) := by
    have e1 : wrap64 (((q / 9 : Nat) : Int) + 1 - 1) = ((q / 9 : Nat) : Int) := by unfold wrap64; omega
    have e2 : wrap64 (((q % 9 : Nat) : Int) + 1 - 1) = ((q % 9 : Nat) : Int) := by unfold wrap64; omega
    rw [e1, e2]
    unfold set_Square.f
    rw [if_neg (by omega), if_neg (by omega), if_neg (by omega), if_neg (by omega), sq_wrap _ _ (show q / 9 < 9 by omega) (show q % 9 < 9 by omega), show 9 * ((q / 9 : Nat) : Int) + ((q % 9 : Nat) : Int) = (q : Int) by omega]
  rw [f3]
  simp only [Option.bind_some]
  rw [if_pos (Int.natCast_nonneg q), if_pos ⟨z6, hz⟩]
  have e4 : s.extract (3 + 3) s.size = rest := by
    apply bytes_eq
    rw [Lib.extract_data, hs]
    simp only [hsz, hlen]
    rw [List.drop_append, List.drop_eq_nil_of_le (by omega), h6]
    simp only [List.nil_append]
    rw [show 3 + 3 - 6 = 0 from rfl, List.drop_zero]
    exact List.take_of_length_le (by omega)
  rw [e4]
/-- A text that does not. -/
theorem cut_miss (s : ByteArray) (hz : s.size ≤ 140737488355328) (hno : ∀ q, q < 81 → ∀ rest : List UInt8, s.data.toList ≠ sqB q ++ rest) : digit_Cut.f s = some (-1, s) := by
  unfold digit_Cut.f
  by_cases h0 : s.size = 0
  · rw [if_pos h0]
  rw [if_neg h0]
  have hF : ∃ t, digit_FromFull.f ((Utf8.decode s 0).1 : Int) = some t ∧ (t = 0 ∨ (65297 ≤ (Utf8.decode s 0).1 ∧ (Utf8.decode s 0).1 ≤ 65305 ∧ t = ((Utf8.decode s 0).1 : Int) - 65296)) := by
    unfold digit_FromFull.f
    by_cases a : ((Utf8.decode s 0).1 : Int) < 65297
    · exact ⟨0, by rw [if_pos a], .inl rfl⟩
    · by_cases b : ((Utf8.decode s 0).1 : Int) > 65305
      · exact ⟨0, by rw [if_neg a, if_pos b], .inl rfl⟩
      · exact ⟨_, by rw [if_neg a, if_neg b], .inr ⟨by omega, by omega, by unfold wrap64 wrap32; omega⟩⟩
  obtain ⟨t, ht, ht'⟩ := hF
  rw [ht]
  simp only [Option.bind_some]
  by_cases hk : (Utf8.decode s 0).2 < s.size
  · rw [if_pos hk]
    obtain ⟨K, hK⟩ : ∃ K, (Utf8.decode s 0).2 = K := ⟨_, rfl⟩
    rw [hK] at hk ⊢
    have hW : ∃ u, digit_FromWord.f ((Utf8.decode s K).1 : Int) = some u ∧ (u = 0 ∨ ∃ y : Nat, y < 9 ∧ (Utf8.decode s K).1 = digit_Word.tab.getD y 0 ∧ u = (y : Int) + 1) := by
      refine ⟨_, rfl, ?_⟩
      by_cases hin : ∃ y : Nat, y < 9 ∧ (Utf8.decode s K).1 = digit_Word.tab.getD y 0
      · obtain ⟨y, hy, e⟩ := hin
        refine .inr ⟨y, hy, e, ?_⟩
        rw [e]
        exact (digit_FromWord.dec y hy).2.2
      · left
        exact digit_FromWord.valOut _ fun q hq e => hin ⟨q, hq, by have : digit_FromWord.tab.getD q 0 = digit_Word.tab.getD q 0 := rfl; omega⟩
    obtain ⟨u, hu, hu'⟩ := hW
    rw [hu]
    simp only [Option.bind_some]
    have hneg : set_Square.f (wrap64 (t - 1)) (wrap64 (u - 1)) = some (-1) := by
      unfold set_Square.f
      rcases ht' with rfl | ⟨a, b, rfl⟩
      · rw [if_pos (by unfold wrap64; omega)]
      · have e1 : wrap64 (((Utf8.decode s 0).1 : Int) - 65296 - 1) = ((Utf8.decode s 0).1 : Int) - 65297 := by unfold wrap64; omega
        rw [e1, if_neg (by omega), if_neg (by omega)]
        rcases hu' with rfl | ⟨y, hy, e, rfl⟩
        · rw [if_pos (by unfold wrap64; omega)]
        · exfalso
          obtain ⟨x, hx⟩ : ∃ x : Nat, (Utf8.decode s 0).1 = 65297 + x := ⟨(Utf8.decode s 0).1 - 65297, by omega⟩
          have hx9 : x < 9 := by omega
          obtain ⟨k3, l0, a0, a1, a2⟩ := dec_three s 0 (by omega) (by omega) (by omega)
          have hK3 : K = 3 := by omega
          subst hK3
          have htab : 2048 ≤ digit_Word.tab.getD y 0 ∧ digit_Word.tab.getD y 0 < 50000 := by
            obtain rfl | rfl | rfl | rfl | rfl | rfl | rfl | rfl | rfl : y = 0 ∨ y = 1 ∨ y = 2 ∨ y = 3 ∨ y = 4 ∨ y = 5 ∨ y = 6 ∨ y = 7 ∨ y = 8 := by omega
            all_goals decide
          obtain ⟨k3', l3, w0, w1, w2⟩ := dec_three s 3 (by omega) (by omega) (by omega)
          have hq : 9 * x + y < 81 := by omega
          have hy' : (9 * x + y) % 9 = y := by omega
          have hx' : (9 * x + y) / 9 = x := by omega
          obtain ⟨d0, d1, d2, d3, d4, d5, dv, -⟩ := sq_dec (9 * x + y) hq
          rw [hy'] at dv
          rw [hx'] at d2
          have v3 := lt256 ((sqB (9 * x + y)).getD 3 0)
          have v4 := lt256 ((sqB (9 * x + y)).getD 4 0)
          have v5 := lt256 ((sqB (9 * x + y)).getD 5 0)
          apply hno (9 * x + y) hq (s.data.toList.drop 6)
          have h6 := (sq_is (9 * x + y) hq).2.2
          rw [e] at w0 w1 w2
          rw [hx] at a0 a1 a2
          rw [Nat.zero_add] at a1 a2
          have w1' : (s.data.toList.getD 4 0).toNat = _ := w1
          have w2' : (s.data.toList.getD 5 0).toNat = _ := w2
          have hg : ∀ i, i < 6 → s.data.toList.getD i 0 = (sqB (9 * x + y)).getD i 0 := by
            intro i hi
            obtain rfl | rfl | rfl | rfl | rfl | rfl : i = 0 ∨ i = 1 ∨ i = 2 ∨ i = 3 ∨ i = 4 ∨ i = 5 := by omega
            · rw [d0]; apply UInt8.toNat_inj.1; rw [a0]; show _ = 239; omega
            · rw [d1]; apply UInt8.toNat_inj.1; rw [a1]; show _ = 188; omega
            · apply UInt8.toNat_inj.1; rw [a2, d2]; omega
            · apply UInt8.toNat_inj.1; omega
            · apply UInt8.toNat_inj.1; omega
            · apply UInt8.toNat_inj.1; omega
          have htake : s.data.toList.take 6 = sqB (9 * x + y) := by
            apply List.ext_getElem
            · rw [List.length_take, h6]; omega
            · intro i h1 h2
              have hi : i < 6 := by rw [h6] at h2; exact h2
              have := hg i hi
              rw [List.getD_eq_getElem?_getD, List.getD_eq_getElem?_getD, List.getElem?_eq_getElem (by omega), List.getElem?_eq_getElem h2] at this
              simpa using this
          rw [← htake, List.take_append_drop]
    rw [hneg]
    simp only [Option.bind_some]
    rw [if_neg (by decide)]
  · rw [if_neg hk, if_pos hz]

def sqs (l : List Int) : List UInt8 := l.flatMap fun q => sqB q.toNat
theorem square_of (q : Int) : (0 ≤ q ∧ q < 81 ∧ digit_Square.f q = some ⟨(sqB q.toNat).toArray⟩) ∨ (¬ (0 ≤ q ∧ q < 81) ∧ digit_Square.f q = some ⟨#[]⟩) := by
  by_cases h : 0 ≤ q ∧ q < 81
  · left
    refine ⟨h.1, h.2, ?_⟩
    have := (sq_is q.toNat (by omega)).1
    rwa [show ((q.toNat : Nat) : Int) = q by omega] at this
  · right
    refine ⟨h, ?_⟩
    unfold digit_Square.f
    by_cases g : q < 0
    · rw [if_pos g]
    · rw [if_neg g, if_pos (by omega)]
def GoodL (l : List Int) : Prop := ∀ q ∈ l, 0 ≤ q ∧ q < 81
theorem sqs_len (l : List Int) (h : GoodL l) : (sqs l).length = 6 * l.length := by
  induction l with
  | nil => rfl
  | cons q l ih =>
    have h1 := h q (by simp)
    have h2 := (sq_is q.toNat (by omega)).2.2
    have h3 := ih fun x hx => h x (by simp [hx])
    show (sqB q.toNat ++ sqs l).length = _
    rw [List.length_append, h2, h3, List.length_cons]
    omega
/-- The last cut: an x stands there. -/
theorem cut_x (t : ByteArray) (rest : List UInt8) (h : t.data.toList = 120 :: rest) (hz : t.size ≤ 140737488355328) : digit_Cut.f t = some (-1, t) := by
  refine cut_miss t hz fun q hq r e => ?_
  have d0 := (sq_dec q hq).1
  have h6 := (sq_is q hq).2.2
  have : (t.data.toList).getD 0 0 = 239 := by
    rw [e, ← d0, List.getD_eq_getElem?_getD, List.getD_eq_getElem?_getD, List.getElem?_append_left (by omega)]
  rw [h] at this
  have h9 : (120 : UInt8) = 239 := this
  exact absurd h9 (by decide)
theorem x_size (rest : ByteArray) : ((⟨#[120]⟩ : ByteArray) ++ rest).size = 1 + rest.size := by rw [ByteArray.size_append]; rfl
theorem cuts (rest : ByteArray) (hr : rest.size ≤ 100) (W : List Int) (hg : GoodL W) (hl : W.length ≤ 50) : ∀ (d k i : Nat) (t : ByteArray), i ≤ W.length → W.length - i = d → d < k →
    t.data.toList = sqs (W.drop i) ++ 120 :: rest.data.toList → kakugyolaw15_DigitRows.l1 k rest t W (W.length : Int) (i : Int) = some true := by
  have hX : ((⟨#[120]⟩ : ByteArray) ++ rest).data.toList = 120 :: rest.data.toList := by rw [ByteArray.data_append, Array.toList_append]; rfl
  intro d
  induction d with
  | zero =>
    intro k i t h1 h2 hk ht
    obtain ⟨k, rfl⟩ : ∃ m, k = m + 1 := ⟨k - 1, by omega⟩
    have hd : W.drop i = [] := List.drop_eq_nil_of_le (by omega)
    rw [hd] at ht
    have ht' : t.data.toList = 120 :: rest.data.toList := ht
    have hts : t.size = 1 + rest.size := by
      have := congrArg List.length ht'
      rw [List.length_cons] at this
      have e1 : t.size = t.data.toList.length := rfl
      have e2 : rest.size = rest.data.toList.length := rfl
      omega
    have hc := cut_x t _ ht' (by omega)
    simp only [kakugyolaw15_DigitRows.l1]
    rw [if_neg (by omega), hc]
    simp only [Option.bind_some]
    rw [if_pos trivial, if_pos (by omega), ByteArray.toList_eq, ByteArray.toList_eq, hX, ht']
    simp
  | succ d ih =>
    intro k i t h1 h2 hk ht
    obtain ⟨k, rfl⟩ : ∃ m, k = m + 1 := ⟨k - 1, by omega⟩
    have hi : i < W.length := by omega
    have hd : W.drop i = W[i] :: W.drop (i + 1) := List.drop_eq_getElem_cons hi
    have hq := hg W[i] (List.getElem_mem hi)
    rw [hd] at ht
    have ht' : t.data.toList = sqB (W[i]).toNat ++ (sqs (W.drop (i + 1)) ++ 120 :: rest.data.toList) := by
      rw [ht]
      show (sqB (W[i]).toNat ++ sqs (W.drop (i + 1))) ++ _ = _
      rw [List.append_assoc]
    have h6 := (sq_is (W[i]).toNat (by omega)).2.2
    have hgd : GoodL (W.drop (i + 1)) := fun x hx => hg x (List.mem_of_mem_drop hx)
    have hlen := sqs_len _ hgd
    have hsz : t.size = 6 + (6 * (W.drop (i + 1)).length + (1 + rest.size)) := by
      have := congrArg List.length ht'
      rw [List.length_append, List.length_append, List.length_cons, h6, hlen] at this
      have e1 : t.size = t.data.toList.length := rfl
      have e2 : rest.size = rest.data.toList.length := rfl
      omega
    rw [List.length_drop] at hsz
    have hc := cut_hit (W[i]).toNat (by omega) t ⟨(sqs (W.drop (i + 1)) ++ 120 :: rest.data.toList).toArray⟩ (by rw [ht']) (by omega)
    have hrd : rd W (i : Int) = W[i] := by
      unfold rd
      rw [Int.toNat_natCast, List.getD_eq_getElem?_getD, List.getElem?_eq_getElem hi]; rfl
    simp only [kakugyolaw15_DigitRows.l1]
    rw [if_pos (by omega), if_pos (by omega), if_pos (by omega), hc]
    simp only [Option.bind_some]
    rw [hrd, if_pos (by omega)]
    have hts : (⟨(sqs (W.drop (i + 1)) ++ 120 :: rest.data.toList).toArray⟩ : ByteArray).size = 6 * (W.length - (i + 1)) + (1 + rest.size) := by
      show (sqs (W.drop (i + 1)) ++ 120 :: rest.data.toList).length = _
      rw [List.length_append, hlen, List.length_cons, List.length_drop]
      have e2 : rest.size = rest.data.toList.length := rfl
      omega
    rw [if_neg (by rw [hts, hsz]; omega), show wrap64 ((i : Int) + 1) = ((i + 1 : Nat) : Int) by unfold wrap64; omega]
    exact ih k (i + 1) _ (by omega) (by omega) (by omega) rfl
theorem writesL (rest : ByteArray) (hr : rest.size ≤ 100) (L : List Int) (hl : L.length ≤ 50) : ∀ (d k i : Nat) (t : ByteArray) (W : List Int), i ≤ L.length → L.length - i = d → d + 60 < k → GoodL W → W.length ≤ i →
    t.data.toList = sqs W → kakugyolaw15_DigitRows.l0 k rest t W L (L.length : Int) (i : Int) = some true := by
  have hX : ((⟨#[120]⟩ : ByteArray) ++ rest).data.toList = 120 :: rest.data.toList := by rw [ByteArray.data_append, Array.toList_append]; rfl
  intro d
  induction d with
  | zero =>
    intro k i t W h1 h2 hk hg hw ht
    obtain ⟨k, rfl⟩ : ∃ m, k = m + 1 := ⟨k - 1, by omega⟩
    have hlen := sqs_len W hg
    have hts : t.size = 6 * W.length := by rw [← hlen, ← ht]; rfl
    simp only [kakugyolaw15_DigitRows.l0]
    rw [if_neg (by omega), if_pos (by omega), x_size rest, if_pos (by omega)]
    exact cuts rest hr W hg (by omega) W.length k 0 _ (by omega) (by omega) (by omega) (by rw [ByteArray.data_append, Array.toList_append, hX, ht]; rfl)
  | succ d ih =>
    intro k i t W h1 h2 hk hg hw ht
    obtain ⟨k, rfl⟩ : ∃ m, k = m + 1 := ⟨k - 1, by omega⟩
    have hi : i < L.length := by omega
    have hlen := sqs_len W hg
    have hts : t.size = 6 * W.length := by rw [← hlen, ← ht]; rfl
    have hwr : wrap64 ((i : Int) + 1) = ((i + 1 : Nat) : Int) := by unfold wrap64; omega
    simp only [kakugyolaw15_DigitRows.l0]
    rw [if_pos (by omega), if_pos (by omega), if_pos (by omega), hwr]
    rcases square_of (rd L (i : Int)) with ⟨q0, q1, hq⟩ | ⟨_, hq⟩
    · rw [hq]
      simp only [Option.bind_some]
      have h6 := (sq_is (rd L (i : Int)).toNat (by omega)).2.2
      have hne : ¬ (⟨(sqB (rd L (i : Int)).toNat).toArray⟩ : ByteArray).toList = [] := by
        rw [ByteArray.toList_eq]
        intro e
        have := congrArg List.length e
        simp only [List.length_nil] at this
        have h7 : (sqB (rd L (i : Int)).toNat).length = 0 := this
        omega
      have hs6 : (⟨(sqB (rd L (i : Int)).toNat).toArray⟩ : ByteArray).size = 6 := h6
      rw [if_neg hne, hs6, if_pos (by omega), if_pos (by omega)]
      refine ih k (i + 1) _ _ (by omega) (by omega) (by omega) ?_ (by rw [List.length_append]; simp; omega) ?_
      · intro x hx
        rcases List.mem_append.1 hx with h | h
        · exact hg x h
        · rw [List.mem_singleton.1 h]; exact ⟨q0, q1⟩
      · rw [ByteArray.data_append, Array.toList_append, ht]
        unfold sqs
        rw [List.flatMap_append]
        simp
    · rw [hq]
      simp only [Option.bind_some]
      rw [if_pos (by rw [ByteArray.toList_eq])]
      exact ih k (i + 1) t W (by omega) (by omega) (by omega) hg (by omega) ht
theorem DigitRows : kakugyolaw15_DigitRows.Pure := by
  intro L rest _ _ _ _
  refine ⟨200, ?_⟩
  have hn : kakugyolaw15_writes.f = some true := by decide +kernel
  have hj : kakugyolaw15_DigitRows.j0 200 L rest true = some true := by
    show kakugyolaw15_DigitRows.j0 (199 + 1) _ _ _ = _
    simp only [kakugyolaw15_DigitRows.j0]
    rw [if_pos trivial]
  unfold kakugyolaw15_DigitRows.f
  rw [hn]
  simp only [Option.bind_some, if_true]
  by_cases h1 : (L.length : Int) > 50
  · rw [if_pos h1, hj]
  · rw [if_neg h1]
    by_cases h2 : (rest.size : Int) > 100
    · rw [decide_eq_true h2, hj]
    · rw [decide_eq_false h2]
      show kakugyolaw15_DigitRows.j0 (199 + 1) _ _ _ = _
      simp only [kakugyolaw15_DigitRows.j0]
      rw [if_neg (by decide)]
      exact writesL rest (by omega) L (by omega) L.length 199 0 _ [] (by omega) (by omega) (by omega) (fun _ h => by simp at h) (by simp) rfl

end Go.Proofs.Ytnmfkhnddnohjab.Pure
