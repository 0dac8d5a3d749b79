/- For every rune, promoted or not, the law PieceParses answers true: the runes below 128 one by one, all others because their last byte is no letter. -/
import Derived.Test.YtnmfkhnddnohjaaPax5
import Derived.OpenShut
namespace Go.Proofs.Ytnmfkhnddnohjaa.Pure
open Go.RowKit Go.Proofs.Ytnmfkhnddnohjaa.Pa Go.Proofs.YtnmfkhnddnohjaaW.PrintWords Go.Proofs.YtnmfkhnddnohjaaW.PrintLast
set_option linter.unusedVariables false
set_option linter.unusedSimpArgs false

theorem enc_bad (x : Int) (hv : ¬ Utf8.valid x = true) : Utf8.encode x = ⟨#[239, 191, 189]⟩ := by
  have hv' : Utf8.valid x = false := Bool.eq_false_iff.2 hv
  unfold Utf8.encode
  simp only [hv', Bool.false_eq_true, if_false]
  decide +kernel
theorem enc_last (x : Int) (h : x < 0 ∨ 128 ≤ x) : ∃ l b, (Utf8.encode x).data.toList = l ++ [b] ∧ 128 ≤ b.toNat := by
  unfold Utf8.encode
  by_cases hv : Utf8.valid x = true
  · have hx : 0 ≤ x := by
      simp only [Utf8.valid, Bool.or_eq_true, Bool.and_eq_true, decide_eq_true_eq] at hv
      omega
    have c1 : ¬ x.toNat < 128 := by omega
    simp only [hv, if_true, c1, if_false]
    by_cases c2 : x.toNat < 2048
    · simp only [c2, if_true]
      exact ⟨[UInt8.ofNat (192 + x.toNat / 64)], UInt8.ofNat (128 + x.toNat % 64), rfl, by simp; omega⟩
    · simp only [c2, if_false]
      by_cases c3 : x.toNat < 65536
      · simp only [c3, if_true]
        exact ⟨[UInt8.ofNat (224 + x.toNat / 4096), UInt8.ofNat (128 + x.toNat / 64 % 64)], UInt8.ofNat (128 + x.toNat % 64), rfl, by simp; omega⟩
      · simp only [c3, if_false]
        exact ⟨[UInt8.ofNat (240 + x.toNat / 262144), UInt8.ofNat (128 + x.toNat / 4096 % 64), UInt8.ofNat (128 + x.toNat / 64 % 64)], UInt8.ofNat (128 + x.toNat % 64), rfl, by simp; omega⟩
  · have hb := enc_bad x hv
    unfold Utf8.encode at hb
    rw [hb]
    exact ⟨[239, 191], 189, rfl, by decide⟩
theorem enc_size (x : Int) : (Utf8.encode x).size ≤ 4 := by
  unfold Utf8.encode
  by_cases hv : Utf8.valid x = true
  · simp only [hv, if_true]
    by_cases c1 : x.toNat < 128
    · simp only [c1, if_true]; show 1 ≤ 4; omega
    · simp only [c1, if_false]
      by_cases c2 : x.toNat < 2048
      · simp only [c2, if_true]; show 2 ≤ 4; omega
      · simp only [c2, if_false]
        by_cases c3 : x.toNat < 65536
        · simp only [c3, if_true]; show 3 ≤ 4; omega
        · simp only [c3, if_false]; show 4 ≤ 4; omega
  · have hb := enc_bad x hv
    unfold Utf8.encode at hb
    rw [hb]
    show 3 ≤ 4; omega

theorem all_i8 (P : Int → Bool) (h : (List.range 256).all (fun n => P ((n : Int) - 128)) = true) (a : Int) (ha : (Lit.int .i8 a).wf = true) : P a = true := by
  have hb := bounds_i8 ha
  have := List.all_eq_true.1 h (a + 128).toNat (List.mem_range.2 (by omega))
  rw [show (((a + 128).toNat : Nat) : Int) - 128 = a by omega] at this
  exact this
theorem all_to (m : Nat) (P : Int → Bool) (h : (List.range m).all (fun n => P (n : Int)) = true) (a : Int) (h0 : 0 ≤ a) (h1 : a < m) : P a = true := by
  have := List.all_eq_true.1 h a.toNat (List.mem_range.2 (by omega))
  rw [show ((a.toNat : Nat) : Int) = a by omega] at this
  exact this
theorem of_beq_some {o : Option Bool} (h : (o == some true) = true) : o = some true := by simpa using h

def nameOk (i : Int) : Bool := match kakugyoref02_Name.f 20 i with
  | some t => t.data.toList.all (fun b => b.toNat < 128)
  | none => false
theorem names_ascii (i : Int) (h0 : 0 ≤ i) (h1 : i < 32) (k : Nat) (hk : 20 ≤ k) : ∃ t, kakugyoref02_Name.f k i = some t ∧ ∀ b ∈ t.data.toList, b.toNat < 128 := by
  have hh := all_to 32 nameOk (by decide +kernel) i h0 h1
  unfold nameOk at hh
  cases hs : kakugyoref02_Name.f 20 i with
  | none => rw [hs] at hh; cases hh
  | some t =>
    rw [hs] at hh
    exact ⟨t, at_rounds (g := fun k => kakugyoref02_Name.f k i) (fun k => kakugyoref02_Name.mono i k) hk hs, fun b hb => by simpa using List.all_eq_true.1 hh b hb⟩
theorem loop_none (x : Int) (p : Bool) (h : x < 0 ∨ 128 ≤ x) : ∀ (d k : Nat) (i : Int), 1 ≤ i → i ≤ 32 → (32 : Int) - i = d → d + 20 < k → kakugyolaw02_PieceParses.l0 k x p 0 0 i = some true := by
  obtain ⟨l, b, hl, hb⟩ := enc_last x h
  have hsz := enc_size x
  intro d
  induction d with
  | zero =>
    intro k i h1 h2 h3 hk
    obtain ⟨k, rfl⟩ : ∃ m, k = m + 1 := ⟨k - 1, by omega⟩
    simp only [kakugyolaw02_PieceParses.l0]
    rw [if_neg (by omega)]
    decide +kernel
  | succ d ih =>
    intro k i h1 h2 h3 hk
    obtain ⟨k, rfl⟩ : ∃ m, k = m + 1 := ⟨k - 1, by omega⟩
    obtain ⟨t, ht, hasc⟩ := names_ascii i (by omega) (by omega) k (by omega)
    have hgo := ih k (i + 1) (by omega) (by omega) (by omega) (by omega)
    simp only [kakugyolaw02_PieceParses.l0]
    rw [if_pos (by omega), ht]
    simp only [Option.bind_some]
    rw [show wrap64 (i + 1) = i + 1 by unfold wrap64; omega]
    have hno : ∀ q : List UInt8, t.toList ≠ q ++ (Utf8.encode x).data.toList := by
      intro q e
      rw [ByteArray.toList_eq, hl] at e
      have := hasc b (by rw [e]; simp)
      omega
    cases p
    · rw [if_neg (by decide), if_neg ?_]
      · exact hgo
      · intro e
        exact hno [] (by rw [e, ByteArray.toList_eq]; rfl)
    · rw [if_pos rfl, if_pos (by omega), if_neg ?_]
      · exact hgo
      · intro e
        apply hno [43]
        rw [e, ByteArray.toList_eq]
        rw [ByteArray.data_append, Array.toList_append]
theorem parse_none (x : Int) (p : Bool) (h : x < 0 ∨ 128 ≤ x) : piece_Parse.f x p = some 0 := by
  unfold piece_Parse.f
  rw [if_neg (by omega)]
  have hk : piece_Parse.kind x = 0 := by
    unfold piece_Parse.kind
    rw [if_neg (by omega), if_neg (by omega), if_neg (by omega), if_neg (by omega), if_neg (by omega), if_neg (by omega), if_neg (by omega), if_neg (by omega)]
  unfold piece_Parse.look
  rw [hk, if_pos rfl]
theorem PieceParses : kakugyolaw02_PieceParses.Pure := by
  intro x p _
  refine ⟨60, ?_⟩
  by_cases h : 0 ≤ x ∧ x < (128 : Nat)
  · cases p
    · exact of_beq_some (all_to 128 (fun x => kakugyolaw02_PieceParses.f 60 x false == some true) (by decide +kernel) x h.1 h.2)
    · exact of_beq_some (all_to 128 (fun x => kakugyolaw02_PieceParses.f 60 x true == some true) (by decide +kernel) x h.1 h.2)
  · have hn : kakugyolaw02_names.f 60 = some true := by decide +kernel
    unfold kakugyolaw02_PieceParses.f
    rw [hn, parse_none x p (by omega)]
    simp only [Option.bind_some, if_true]
    exact loop_none x p (by omega) 31 60 1 (by omega) (by omega) (by omega) (by omega)

end Go.Proofs.Ytnmfkhnddnohjaa.Pure
