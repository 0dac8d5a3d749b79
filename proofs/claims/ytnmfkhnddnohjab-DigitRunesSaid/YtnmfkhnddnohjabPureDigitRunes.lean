/- For every rune the law DigitRunes answers true: the eighteen digits one by one, all other runes by what UTF-8 makes of them. -/
import Derived.Test.YtnmfkhnddnohjabPax2
import Derived.OpenShut
namespace Go.Proofs.Ytnmfkhnddnohjab.Pure
open Go.RowKit Go.Proofs.Ytnmfkhnddnohjab.Pa Go.Proofs.YtnmfkhnddnohjabW.PrintWords Go.Proofs.YtnmfkhnddnohjabW.PrintLast
set_option linter.unusedVariables false
set_option linter.unusedSimpArgs false

theorem enc3 (x : Int) (b0 b1 b2 : UInt8) (h : (Utf8.encode x).data.toList = [b0, b1, b2]) :
    (x = ((b0.toNat : Int) - 224) * 4096 + ((b1.toNat : Int) - 128) * 64 + ((b2.toNat : Int) - 128)) ∨ (b0 = 239 ∧ b1 = 191 ∧ b2 = 189) := by
  unfold Utf8.encode at h
  by_cases hv : Utf8.valid x = true
  · simp only [hv, if_true] at h
    by_cases c1 : x.toNat < 128
    · simp only [c1, if_true] at h
      have := congrArg List.length h
      simp at this
    · simp only [c1, if_false] at h
      by_cases c2 : x.toNat < 2048
      · simp only [c2, if_true] at h
        have := congrArg List.length h
        simp at this
      · simp only [c2, if_false] at h
        by_cases c3 : x.toNat < 65536
        · simp only [c3, if_true] at h
          left
          have e : [UInt8.ofNat (224 + x.toNat / 4096), UInt8.ofNat (128 + x.toNat / 64 % 64), UInt8.ofNat (128 + x.toNat % 64)] = [b0, b1, b2] := h
          injection e with e0 e
          injection e with e1 e
          injection e with e2 e
          subst e0 e1 e2
          simp only [UInt8.toNat_ofNat']
          omega
        · simp only [c3, if_false] at h
          have := congrArg List.length h
          simp at this
  · right
    have hv' : Utf8.valid x = false := Bool.eq_false_iff.2 hv
    have hb : Utf8.encode x = ⟨#[239, 191, 189]⟩ := by
      unfold Utf8.encode
      simp only [hv', Bool.false_eq_true, if_false]
      decide +kernel
    unfold Utf8.encode at hb
    rw [hb] at h
    have e : [(239 : UInt8), 191, 189] = [b0, b1, b2] := h
    injection e with e0 e
    injection e with e1 e
    injection e with e2 e
    exact ⟨e0.symm, e1.symm, e2.symm⟩

theorem all_i8 (P : Int → Bool) (h : (List.range 256).all (fun n => P ((n : Int) - 128)) = true) (a : Int) (ha : (Lit.int .i8 a).wf = true) : P a = true := by
  have hb := bounds_i8 ha
  have := List.all_eq_true.1 h (a + 128).toNat (List.mem_range.2 (by omega))
  rw [show (((a + 128).toNat : Nat) : Int) - 128 = a by omega] at this
  exact this
theorem all_to (m : Nat) (P : Int → Bool) (h : (List.range m).all (fun n => P (n : Int)) = true) (a : Int) (h0 : 0 ≤ a) (h1 : a < m) : P a = true := by
  have := List.all_eq_true.1 h a.toNat (List.mem_range.2 (by omega))
  rw [show ((a.toNat : Nat) : Int) = a by omega] at this
  exact this
theorem of_beq_some {o : Option Bool} (h : (o == some true) = true) : o = some true := by simpa using h

def digitRunes : List Int := [65297, 65298, 65299, 65300, 65301, 65302, 65303, 65304, 65305, 19968, 20108, 19977, 22235, 20116, 20845, 19971, 20843, 20061]
def fulls : List ByteArray := [(⟨#[]⟩ : ByteArray), (⟨#[239, 188, 145]⟩ : ByteArray), (⟨#[239, 188, 146]⟩ : ByteArray), (⟨#[239, 188, 147]⟩ : ByteArray), (⟨#[239, 188, 148]⟩ : ByteArray), (⟨#[239, 188, 149]⟩ : ByteArray), (⟨#[239, 188, 150]⟩ : ByteArray), (⟨#[239, 188, 151]⟩ : ByteArray), (⟨#[239, 188, 152]⟩ : ByteArray), (⟨#[239, 188, 153]⟩ : ByteArray)]
def wordsL : List ByteArray := [(⟨#[]⟩ : ByteArray), (⟨#[228, 184, 128]⟩ : ByteArray), (⟨#[228, 186, 140]⟩ : ByteArray), (⟨#[228, 184, 137]⟩ : ByteArray), (⟨#[229, 155, 155]⟩ : ByteArray), (⟨#[228, 186, 148]⟩ : ByteArray), (⟨#[229, 133, 173]⟩ : ByteArray), (⟨#[228, 184, 131]⟩ : ByteArray), (⟨#[229, 133, 171]⟩ : ByteArray), (⟨#[228, 185, 157]⟩ : ByteArray)]
theorem find_none (L : List ByteArray) (s : ByteArray) (hl : L.length = 10) (h : ∀ i : Nat, 1 ≤ i → i < 10 → (rdOf ByteArray.empty L i).toList ≠ s.toList) : ∀ (d k : Nat) (i : Int), 1 ≤ i → i ≤ 10 → (10 : Int) - i = d → d < k → kakugyoref15_find.l0 k L s i = some 0 := by
  intro d
  induction d with
  | zero =>
    intro k i h1 h2 h3 hk
    obtain ⟨k, rfl⟩ : ∃ m, k = m + 1 := ⟨k - 1, by omega⟩
    simp only [kakugyoref15_find.l0]
    rw [if_neg (by omega)]
  | succ d ih =>
    intro k i h1 h2 h3 hk
    obtain ⟨k, rfl⟩ : ∃ m, k = m + 1 := ⟨k - 1, by omega⟩
    simp only [kakugyoref15_find.l0]
    have hne := h i.toNat (by omega) (by omega)
    rw [show ((i.toNat : Nat) : Int) = i by omega] at hne
    rw [if_pos (by omega), if_pos (by omega), if_neg hne, show wrap64 (i + 1) = i + 1 by unfold wrap64; omega]
    exact ih k (i + 1) (by omega) (by omega) (by omega) (by omega)
theorem not_full (x : Int) (h : digitRunes.contains x = false) : ∀ i : Nat, 1 ≤ i → i < 10 → (rdOf ByteArray.empty fulls i).toList ≠ (Utf8.encode x).toList := by
  intro i h1 h2 e
  have hx : ¬ x ∈ digitRunes := by simpa using h
  unfold digitRunes at hx
  simp only [List.mem_cons, List.not_mem_nil, or_false, not_or] at hx
  rw [ByteArray.toList_eq, ByteArray.toList_eq] at e
  obtain rfl | rfl | rfl | rfl | rfl | rfl | rfl | rfl | rfl : i = 1 ∨ i = 2 ∨ i = 3 ∨ i = 4 ∨ i = 5 ∨ i = 6 ∨ i = 7 ∨ i = 8 ∨ i = 9 := by omega
  all_goals
    rcases enc3 x _ _ _ e.symm with q | ⟨q1, q2, q3⟩
    · simp at q
      omega
    · first | (cases q1; done) | (cases q2; done) | (exact absurd q2 (by decide)) | (exact absurd q1 (by decide))
theorem not_word (x : Int) (h : digitRunes.contains x = false) : ∀ i : Nat, 1 ≤ i → i < 10 → (rdOf ByteArray.empty wordsL i).toList ≠ (Utf8.encode x).toList := by
  intro i h1 h2 e
  have hx : ¬ x ∈ digitRunes := by simpa using h
  unfold digitRunes at hx
  simp only [List.mem_cons, List.not_mem_nil, or_false, not_or] at hx
  rw [ByteArray.toList_eq, ByteArray.toList_eq] at e
  obtain rfl | rfl | rfl | rfl | rfl | rfl | rfl | rfl | rfl : i = 1 ∨ i = 2 ∨ i = 3 ∨ i = 4 ∨ i = 5 ∨ i = 6 ∨ i = 7 ∨ i = 8 ∨ i = 9 := by omega
  all_goals
    rcases enc3 x _ _ _ e.symm with q | ⟨q1, q2, q3⟩
    · simp at q
      omega
    · first | (cases q1; done) | (cases q2; done) | (exact absurd q2 (by decide)) | (exact absurd q1 (by decide))
theorem DigitRunes : kakugyolaw15_DigitRunes.Pure := by
  intro x _
  refine ⟨12, ?_⟩
  cases h : digitRunes.contains x
  · have hx : ¬ x ∈ digitRunes := by simpa using h
    unfold digitRunes at hx
    simp only [List.mem_cons, List.not_mem_nil, or_false, not_or] at hx
    have hn : kakugyolaw15_writes.f = some true := by decide +kernel
    have h1 : kakugyoref15_find.f 12 fulls (Utf8.encode x) = some 0 := find_none fulls _ rfl (not_full x h) 9 12 1 (by omega) (by omega) (by omega) (by omega)
    have h2 : kakugyoref15_find.f 12 wordsL (Utf8.encode x) = some 0 := find_none wordsL _ rfl (not_word x h) 9 12 1 (by omega) (by omega) (by omega) (by omega)
    have h3 : kakugyoref15_One.f 12 (Utf8.encode x) = some (0, 0) := by
      unfold kakugyoref15_One.f
      show ((some fulls).bind fun t126 => ((kakugyoref15_find.f 12 t126 (Utf8.encode x)).bind fun t129 => ((some wordsL).bind fun t130 => ((kakugyoref15_find.f 12 t130 (Utf8.encode x)).bind fun t133 => (some (t129, t133)))))) = _
      simp only [Option.bind_some]
      rw [h1]; simp only [Option.bind_some]
      rw [h2]; rfl
    have h4 : digit_FromFull.f x = some 0 := by
      unfold digit_FromFull.f
      by_cases g : x < 65297
      · rw [if_pos g]
      · rw [if_neg g, if_pos (by omega)]
    have h5 : digit_FromWord.f x = some 0 := by
      unfold digit_FromWord.f digit_FromWord.val
      rw [if_neg (by omega), if_neg (by omega), if_neg (by omega), if_neg (by omega), if_neg (by omega), if_neg (by omega), if_neg (by omega), if_neg (by omega), if_neg (by omega)]
    unfold kakugyolaw15_DigitRunes.f
    rw [hn, h3, h4, h5]; rfl
  · have hx : x ∈ digitRunes := by simpa using h
    unfold digitRunes at hx
    simp only [List.mem_cons, List.not_mem_nil, or_false] at hx
    rcases hx with rfl | rfl | rfl | rfl | rfl | rfl | rfl | rfl | rfl | rfl | rfl | rfl | rfl | rfl | rfl | rfl | rfl | rfl <;> decide +kernel

end Go.Proofs.Ytnmfkhnddnohjab.Pure
