/- For every two int8 the law PieceNames answers true: each piece's name leads back to it, so no two pieces have one; all 256 numbers are asked by the kernel. -/
import Derived.Test.YtnmfkhnddnohjaaPax6
import Derived.OpenShut
namespace Go.Proofs.Ytnmfkhnddnohjaa.Pure
open Go.RowKit Go.Proofs.Ytnmfkhnddnohjaa.Pa Go.Proofs.YtnmfkhnddnohjaaW.PrintWords Go.Proofs.YtnmfkhnddnohjaaW.PrintLast
set_option linter.unusedVariables false
set_option linter.unusedSimpArgs false

theorem all_i8 (P : Int → Bool) (h : (List.range 256).all (fun n => P ((n : Int) - 128)) = true) (a : Int) (ha : (Lit.int .i8 a).wf = true) : P a = true := by
  have hb := bounds_i8 ha
  have := List.all_eq_true.1 h (a + 128).toNat (List.mem_range.2 (by omega))
  rw [show (((a + 128).toNat : Nat) : Int) - 128 = a by omega] at this
  exact this
theorem all_to (m : Nat) (P : Int → Bool) (h : (List.range m).all (fun n => P (n : Int)) = true) (a : Int) (h0 : 0 ≤ a) (h1 : a < m) : P a = true := by
  have := List.all_eq_true.1 h a.toNat (List.mem_range.2 (by omega))
  rw [show ((a.toNat : Nat) : Int) = a by omega] at this
  exact this
theorem of_beq_some {o : Option Bool} (h : (o == some true) = true) : o = some true := by simpa using h

def nm (a : Int) : ByteArray := (piece_Name.f 20 a).getD ⟨#[]⟩
def back (x : ByteArray) : Option Int := piece_Parse.f (wrap32 (bt x (wrap64 ((x.size : Int) - 1)))) ((x.size : Int) == 2)
/-- What the law asks of one piece alone. -/
def okOne (a : Int) : Bool :=
  match piece_Name.f 20 a with
  | none => false
  | some x =>
    if x.toList == ([] : List UInt8) then (match piece_Kind.f 20 a with | some k => k == 0 | none => false)
    else decide (0 ≤ wrap64 ((x.size : Int) - 1)) && decide (wrap64 ((x.size : Int) - 1) < (x.size : Int)) && back x == some a && kakugyolaw02_PieceNames.j1 20 a x false == some true
theorem PieceNames : kakugyolaw02_PieceNames.Pure := by
  intro a b ha hb
  refine ⟨21, ?_⟩
  have hn : kakugyolaw02_names.f 21 = some true := by decide +kernel
  have oa := all_i8 okOne (by decide +kernel) a ha
  have ob := all_i8 okOne (by decide +kernel) b hb
  unfold okOne at oa ob
  cases hx : piece_Name.f 20 a with
  | none => rw [hx] at oa; cases oa
  | some x =>
  cases hy : piece_Name.f 20 b with
  | none => rw [hy] at ob; cases ob
  | some y =>
  rw [hx] at oa
  rw [hy] at ob
  simp only at oa ob
  have hx1 : piece_Name.f 21 a = some x := piece_Name.mono a 20 x hx
  have hy1 : piece_Name.f 21 b = some y := piece_Name.mono b 20 y hy
  unfold kakugyolaw02_PieceNames.f
  rw [hn, hx1, hy1]
  simp only [Option.bind_some, if_true]
  -- one name is empty
  have hE : ∀ (_ : x.toList = [] ∨ y.toList = []), kakugyolaw02_PieceNames.j0 21 a b x y true = some true := by
    intro hxy
    show kakugyolaw02_PieceNames.j0 (20 + 1) a b x y true = _
    simp only [kakugyolaw02_PieceNames.j0]
    rw [if_pos trivial]
    by_cases hxe : x.toList = []
    · rw [if_pos (by rw [hxe]; rfl)] at oa
      cases hk : piece_Kind.f 20 a with
      | none => rw [hk] at oa; cases oa
      | some k =>
        rw [hk] at oa
        simp only [Option.bind_some]
        rw [if_pos (by simpa using oa)]
    · rw [if_neg (by simpa using hxe)] at oa
      have hk : ∃ k, piece_Kind.f 20 a = some k := by
        have : (List.range 256).all (fun n => (piece_Kind.f 20 ((n : Int) - 128)).isSome) = true := by decide +kernel
        have := all_i8 (fun a => (piece_Kind.f 20 a).isSome) this a ha
        exact Option.isSome_iff_exists.1 this
      obtain ⟨k, hk⟩ := hk
      rw [hk]
      simp only [Option.bind_some]
      by_cases h0 : k = 0
      · rw [if_pos h0]
      · rw [if_neg h0, show (x.toList != []) = true from bne_iff_ne.2 hxe]
  by_cases hxe : x.toList = []
  · rw [if_pos hxe]; exact hE (.inl hxe)
  · rw [if_neg hxe]
    by_cases hye : y.toList = []
    · rw [show (y.toList == []) = true from beq_iff_eq.2 hye]; exact hE (.inr hye)
    · rw [show (y.toList == []) = false from beq_eq_false_iff_ne.2 hye]
      rw [if_neg (by simpa using hxe)] at oa
      rw [if_neg (by simpa using hye)] at ob
      simp only [Bool.and_eq_true, decide_eq_true_eq, beq_iff_eq] at oa ob
      show kakugyolaw02_PieceNames.j0 (20 + 1) a b x y false = _
      simp only [kakugyolaw02_PieceNames.j0]
      have hba : piece_Parse.f (wrap32 (bt x (wrap64 ((x.size : Int) - 1)))) ((x.size : Int) == 2) = some a := oa.1.2
      have hinj : (x.toList == y.toList) = (a == b) := by
        rw [Bool.eq_iff_iff, beq_iff_eq, beq_iff_eq]
        constructor
        · intro e
          have exy : x = y := by
            rw [ByteArray.toList_eq, ByteArray.toList_eq] at e
            exact ByteArray.ext (Array.toList_inj.1 e)
          have h1 : back x = some a := oa.1.2
          have h2 : back y = some b := ob.1.2
          rw [exy, h2] at h1
          exact (Option.some.inj h1).symm
        · intro e
          subst e
          rw [hx] at hy
          rw [Option.some.inj hy]
      rw [if_neg (by decide), if_pos oa.1.1.1, if_pos oa.1.1.2, if_neg (by rw [hinj]; simp), hba]
      simp only [Option.bind_some]
      rw [show (a != a) = false by simp]
      exact oa.2

end Go.Proofs.Ytnmfkhnddnohjaa.Pure
