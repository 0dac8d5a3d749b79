/- That no test fails: functions that answer, and what their answers are like. -/
import Derived.Test.YtgeignldbgncbaaGreatDoorBF6
import Derived.Lib.SpaceUEq
section
set_option maxRecDepth 100000
set_option linter.unusedVariables false
set_option linter.unusedSimpArgs false
namespace Go.AM.T
open Go Go.AM Go.Proofs
/-- It answers, and so. -/
def T {α : Type} (o : Option α) (Q : α → Prop) : Prop := match o with | some y => Q y | none => False
section
variable {α β γ : Type} {Q : α → Prop}
theorem T_some (y : α) : T (some y) Q = Q y := rfl
theorem T_none : T (none : Option α) Q = False := rfl
theorem T_br (c : Bool) (x y : Option α) : T (Br c x y) Q = ((c = true → T x Q) ∧ (c = false → T y Q)) := by unfold Br; cases c <;> simp
theorem T_ob (o : Option β) (f : β → Option α) : T (ob o f) Q = T o fun y => T (f y) Q := by cases o <;> rfl
theorem T_sm (x : β ⊕ γ) (f : β → Option α) (g : γ → Option α) : T (sm x f g) Q = match x with | .inl a => T (f a) Q | .inr b => T (g b) Q := by cases x <;> rfl
theorem T.use {o : Option α} {P : α → Prop} (h : T o P) (k : ∀ y, P y → Q y) : T o Q := by
  cases o with
  | none => exact h
  | some y => exact k y h
theorem T.get {o : Option α} (h : T o Q) : ∃ y, o = some y ∧ Q y := by
  cases o with
  | none => exact h.elim
  | some y => exact ⟨y, rfl, h⟩
end
theorem lt_t (a b : Int) : (lt a b = true) = (a < b) := by unfold lt; simp
theorem lt_f (a b : Int) : (lt a b = false) = (b ≤ a) := by unfold lt; simp
theorem le_t (a b : Int) : (le a b = true) = (a ≤ b) := by unfold le; simp
theorem le_f (a b : Int) : (le a b = false) = (b < a) := by unfold le; simp
theorem eq_t (a b : Int) : (eq a b = true) = (a = b) := by unfold eq; simp
theorem eq_f (a b : Int) : (eq a b = false) = (a ≠ b) := by unfold eq; simp
theorem inr_t (a b : Int) : (inr a b = true) = (0 ≤ a ∧ a < b) := by unfold inr; simp
theorem inr_f (a b : Int) : (inr a b = false) = (a < 0 ∨ b ≤ a) := by unfold inr; simp; omega
theorem inq_t (a b : Int) : (inq a b = true) = (0 ≤ a ∧ a ≤ b) := by unfold inq; simp
theorem inq_f (a b : Int) : (inq a b = false) = (a < 0 ∨ b < a) := by unfold inq; simp; omega
theorem not_t (c : Bool) : ((!c) = true) = (c = false) := by simp
theorem not_f (c : Bool) : ((!c) = false) = (c = true) := by simp
theorem wa_in (a b : Int) : wa .i64 a b = a + b ∨ a + b < -9223372036854775808 ∨ 9223372036854775807 < a + b := by
  unfold wa
  by_cases h : -9223372036854775808 ≤ a + b ∧ a + b ≤ 9223372036854775807
  · left; exact IntWalk.i64_in _ (by omega)
  · right; omega
theorem ws_in (a b : Int) : ws .i64 a b = a - b ∨ a - b < -9223372036854775808 ∨ 9223372036854775807 < a - b := by
  unfold ws
  by_cases h : -9223372036854775808 ≤ a - b ∧ a - b ≤ 9223372036854775807
  · left; exact IntWalk.i64_in _ (by omega)
  · right; omega
theorem wm_in (a b : Int) : wm .i64 a b = a * b ∨ a * b < -9223372036854775808 ∨ 9223372036854775807 < a * b := by
  unfold wm
  by_cases h : -9223372036854775808 ≤ a * b ∧ a * b ≤ 9223372036854775807
  · left; exact IntWalk.i64_in _ (by omega)
  · right; omega
theorem wr8_in (a : Int) : wr .i8 a = a ∨ a < -128 ∨ 127 < a := by
  unfold wr
  by_cases h : -128 ≤ a ∧ a ≤ 127
  · left; simp only [IntKind.wrap]; first | exact IntWalk.i8_in _ (by omega) | (have := IntKind.wrap_i8 a; simp only [IntKind.wrap] at this; omega)
  · right; omega
theorem wr64_in (a : Int) : wr .i64 a = a ∨ a < -9223372036854775808 ∨ 9223372036854775807 < a := by
  unfold wr
  by_cases h : -9223372036854775808 ≤ a ∧ a ≤ 9223372036854775807
  · left; exact IntWalk.i64_in _ (by omega)
  · right; omega
theorem ban15 (a : Int) : 0 ≤ ban .i64 a 15 ∧ ban .i64 a 15 ≤ 15 := by
  unfold ban
  have h : (BitVec.ofInt IntKind.i64.bits a &&& BitVec.ofInt IntKind.i64.bits 15).toNat ≤ 15 := by
    rw [BitVec.toNat_and]
    exact Nat.le_trans Nat.and_le_right (by decide)
  generalize (BitVec.ofInt IntKind.i64.bits a &&& BitVec.ofInt IntKind.i64.bits 15).toNat = n at h
  rw [show IntKind.i64.wrap (n : Int) = n from IntWalk.i64_in _ (by omega)]
  omega
theorem ban15_fin : ∀ i : Fin 32, ban .i64 (wr .i64 ((i : Nat) : Int)) 15 = ((i : Nat) : Int) % 16 := by decide +kernel
theorem ban15_mod (p : Int) (h0 : 0 ≤ p) (h1 : p ≤ 31) : ban .i64 (wr .i64 p) 15 = p % 16 := by
  have := ban15_fin ⟨p.toNat, by omega⟩
  simp only at this
  rwa [show ((p.toNat : Nat) : Int) = p by omega] at this
theorem t_Square (f r : Int) : T (f_set_Square f r) fun y => (y.1 = -1 ∧ ¬ (0 ≤ f ∧ f ≤ 8 ∧ 0 ≤ r ∧ r ≤ 8)) ∨ (y.1 = 9 * f + r ∧ 0 ≤ f ∧ f ≤ 8 ∧ 0 ≤ r ∧ r ≤ 8) := by
  unfold f_set_Square
  simp only [T_br, T_some, T_none, T_ob, T_sm, lt_t, lt_f, le_t, le_f, eq_t, eq_f, inr_t, inr_f, inq_t, inq_f, not_t, not_f]
  have := wm_in 9 f
  have :=  wa_in (wm .i64 9 f) r
  repeat' (first | refine ⟨?_, ?_⟩ | intro _)
  all_goals first | trivial | omega | (simp only [true_and, and_true, false_and, and_false, or_false, false_or, true_or, or_true]; omega)
theorem t_Of (side kind : Int) : T (f_piece_Of side kind) fun y => (y.1 = 0 ∧ ¬ ((side = 0 ∨ side = 1) ∧ 1 ≤ kind ∧ kind ≤ 15 ∧ kind ≠ 13)) ∨ (y.1 = 16 * side + kind ∧ (side = 0 ∨ side = 1) ∧ 1 ≤ kind ∧ kind ≤ 15 ∧ kind ≠ 13) := by
  unfold f_piece_Of
  simp only [T_br, T_some, T_none, T_ob, T_sm, lt_t, lt_f, le_t, le_f, eq_t, eq_f, inr_t, inr_f, inq_t, inq_f, not_t, not_f]
  have := wm_in 16 side
  have :=  wa_in (wm .i64 16 side) kind
  have :=  wr8_in (wa .i64 (wm .i64 16 side) kind)
  repeat' (first | refine ⟨?_, ?_⟩ | intro _)
  all_goals first | trivial | omega | (simp only [true_and, and_true, false_and, and_false, or_false, false_or, true_or, or_true]; omega)
theorem t_Kind (p : Int) : T (f_piece_Kind p) fun y => (y.1 = 0 ∧ (p ≤ 0 ∨ 31 < p ∨ p % 16 = 0 ∨ p % 16 = 13)) ∨ (1 ≤ p ∧ p ≤ 31 ∧ y.1 = p % 16 ∧ p % 16 ≠ 0 ∧ p % 16 ≠ 13) := by
  unfold f_piece_Kind
  have hb : p < 0 ∨ 31 < p ∨ ban .i64 (wr .i64 p) 15 = p % 16 := by
    by_cases h : 0 ≤ p ∧ p ≤ 31
    · exact .inr (.inr (ban15_mod p h.1 h.2))
    · omega
  simp only [T_br, T_some, T_none, T_ob, T_sm, lt_t, lt_f, le_t, le_f, eq_t, eq_f, inr_t, inr_f, inq_t, inq_f, not_t, not_f]
  repeat' (first | refine ⟨?_, ?_⟩ | intro _)
  all_goals first | trivial | omega | (simp only [true_and, and_true, false_and, and_false, or_false, false_or, true_or, or_true]; omega)
theorem t_Side (p : Int) : T (f_piece_Side p) fun y => (y.1 = -1 ∧ (p ≤ 0 ∨ 31 < p ∨ p % 16 = 0 ∨ p % 16 = 13)) ∨ (1 ≤ p ∧ p ≤ 31 ∧ y.1 = p / 16 ∧ p % 16 ≠ 0 ∧ p % 16 ≠ 13) := by
  unfold f_piece_Side
  simp only [T_br, T_some, T_none, T_ob, T_sm, lt_t, lt_f, le_t, le_f, eq_t, eq_f, inr_t, inr_f, inq_t, inq_f, not_t, not_f]
  repeat' (first | refine ⟨?_, ?_⟩ | intro _ | refine (t_Kind _).use fun _ _ => ?_)
  all_goals first | trivial | omega | (simp only [true_and, and_true, false_and, and_false, or_false, false_or, true_or, or_true]; omega)
theorem t_Raw (k : Int) : T (f_piece_Raw k) fun y => (1 ≤ k ∧ k ≤ 15 ∧ k ≠ 13 → 1 ≤ y.1 ∧ y.1 ≤ 8) ∧ 0 ≤ y.1 ∧ y.1 ≤ 8 := by
  unfold f_piece_Raw
  simp only [T_br, T_some, T_none, T_ob, T_sm, lt_t, lt_f, le_t, le_f, eq_t, eq_f, inr_t, inr_f, inq_t, inq_f, not_t, not_f]
  have := ws_in k 8
  repeat' (first | refine ⟨?_, ?_⟩ | intro _ | refine (t_Of _ _).use fun _ _ => ?_)
  all_goals first | trivial | omega | (simp only [true_and, and_true, false_and, and_false, or_false, false_or, true_or, or_true]; omega)
theorem t_Up9 (n : Nat) : T (f_piece_Up_j9 n ()) fun y => y.1 = 0 := by
  unfold f_piece_Up_j9
  simp only [T_br, T_some, T_none, T_ob, T_sm, lt_t, lt_f, le_t, le_f, eq_t, eq_f, inr_t, inr_f, inq_t, inq_f, not_t, not_f]
  repeat' (first | refine ⟨?_, ?_⟩ | intro _)
  all_goals first | trivial | omega | (simp only [true_and, and_true, false_and, and_false, or_false, false_or, true_or, or_true]; omega)
theorem t_Up (n : Nat) (k : Int) : T (f_piece_Up n k) fun y => (y.1 = 0 ∨ y.1 = k + 8) ∧ (y.1 ≠ 0 → k = 1 ∨ k = 2 ∨ k = 3 ∨ k = 4 ∨ k = 6 ∨ k = 7) := by
  unfold f_piece_Up
  simp only [T_br, T_some, T_none, T_ob, T_sm, lt_t, lt_f, le_t, le_f, eq_t, eq_f, inr_t, inr_f, inq_t, inq_f, not_t, not_f]
  have := wa_in k 8
  repeat' (first | refine ⟨?_, ?_⟩ | intro _ | refine (t_Up9 n).use fun _ _ => ?_)
  all_goals first | trivial | omega | (simp only [true_and, and_true, false_and, and_false, or_false, false_or, true_or, or_true]; omega)
theorem t_Tot13 (n : Nat) : T (f_piece_Total_j13 n ()) fun y => True := by
  unfold f_piece_Total_j13
  trivial
theorem t_Total (n : Nat) (k : Int) : T (f_piece_Total n k) fun y => True := by
  unfold f_piece_Total
  simp only [T_br, T_some, T_none, T_ob, T_sm, lt_t, lt_f, le_t, le_f, eq_t, eq_f, inr_t, inr_f, inq_t, inq_f, not_t, not_f]
  repeat' (first | refine ⟨?_, ?_⟩ | intro _ | refine (t_Tot13 n).use fun _ _ => ?_)
  all_goals first | trivial | omega | (simp only [true_and, and_true, false_and, and_false, or_false, false_or, true_or, or_true]; omega)
theorem t_Far (s q : Int) : T (f_step_Far s q) fun y => True := by
  unfold f_step_Far
  simp only [T_br, T_some, T_none, T_ob, T_sm, lt_t, lt_f, le_t, le_f, eq_t, eq_f, inr_t, inr_f, inq_t, inq_f, not_t, not_f]
  repeat' (first | refine ⟨?_, ?_⟩ | intro _)
  all_goals first | trivial | omega | (simp only [true_and, and_true, false_and, and_false, or_false, false_or, true_or, or_true]; omega)
theorem t_Dead (p q : Int) : T (f_step_Dead p q) fun y => True := by
  unfold f_step_Dead
  simp only [T_br, T_some, T_none, T_ob, T_sm, lt_t, lt_f, le_t, le_f, eq_t, eq_f, inr_t, inr_f, inq_t, inq_f, not_t, not_f]
  repeat' (first | refine ⟨?_, ?_⟩ | intro _ | refine (t_Kind _).use fun _ _ => ?_ | refine ( t_Side _).use fun _ _ => ?_ | refine ( t_Far _ _).use fun _ _ => ?_)
  all_goals first | trivial | omega | (simp only [true_and, and_true, false_and, and_false, or_false, false_or, true_or, or_true]; omega)
theorem t_bit (q : Int) : T (f_set_bit q) fun y => True := by
  unfold f_set_bit
  simp only [T_br, T_some, T_none, T_ob, T_sm, lt_t, lt_f, le_t, le_f, eq_t, eq_f, inr_t, inr_f, inq_t, inq_f, not_t, not_f]
  have := ws_in q 63
  repeat' (first | refine ⟨?_, ?_⟩ | intro _)
  all_goals first | trivial | omega | (simp only [true_and, and_true, false_and, and_false, or_false, false_or, true_or, or_true]; omega)
theorem t_Without (s : Int × Int × Unit) (q : Int) : T (f_set_Set_Without s q) fun y => True := by
  unfold f_set_Set_Without
  simp only [T_br, T_some, T_none, T_ob, T_sm, lt_t, lt_f, le_t, le_f, eq_t, eq_f, inr_t, inr_f, inq_t, inq_f, not_t, not_f]
  repeat' (first | refine ⟨?_, ?_⟩ | intro _ | refine (t_bit _).use fun _ _ => ?_)
  all_goals first | trivial | omega | (simp only [true_and, and_true, false_and, and_false, or_false, false_or, true_or, or_true]; omega)
theorem t_With (s : Int × Int × Unit) (q : Int) : T (f_set_Set_With s q) fun y => True := by
  unfold f_set_Set_With
  simp only [T_br, T_some, T_none, T_ob, T_sm, lt_t, lt_f, le_t, le_f, eq_t, eq_f, inr_t, inr_f, inq_t, inq_f, not_t, not_f]
  repeat' (first | refine ⟨?_, ?_⟩ | intro _ | refine (t_bit _).use fun _ _ => ?_)
  all_goals first | trivial | omega | (simp only [true_and, and_true, false_and, and_false, or_false, false_or, true_or, or_true]; omega)
end Go.AM.T
end
/- Loops: each ends, and no test in it fails. -/
section
set_option maxRecDepth 100000
set_option linter.unusedVariables false
set_option linter.unusedSimpArgs false
namespace Go.AM.T
open Go Go.AM Go.Proofs
theorem len_eq (s : ByteArray) : len s = (s.size : Int) := by unfold len; rfl
theorem wid_gt (s : ByteArray) (p : Nat) : p < widD s p := by
  unfold widD
  have := Lib.width_pos s p
  omega
theorem set_or (l : List Int) (i j : Nat) (x : Int) : (l.set i x).getD j 0 = x ∨ (l.set i x).getD j 0 = l.getD j 0 := by
  simp only [List.getD_eq_getElem?_getD, List.getElem?_set]
  split
  · split
    · left; rfl
    · right
      rename_i h1 h2
      subst h1
      rw [List.getElem?_eq_none (by omega)]
  · right; rfl
/-! ### piece.Parse -/
theorem t_PP_l (n : Nat) (letter : Int) (pr : Bool) (side : Int) (hs : side = 0 ∨ side = 1) (s : ByteArray) (hz : s.size = 9) : ∀ (m p : Nat), 9 - p < m → T (f_piece_Parse_l0_i n m letter pr side (s, p)) fun y => match y with
    | .inl v => v.1 = 0 ∨ (1 ≤ v.1 ∧ v.1 ≤ 31 ∧ v.1 % 16 ≠ 0 ∧ v.1 % 16 ≠ 13 ∧ (pr = false → v.1 % 16 ≤ 8)) | .inr _ => True
  | 0, p, h => by omega
  | m + 1, p, h => by
    have ih := t_PP_l n letter pr side hs s hz m (widD s p)
    have hw := wid_gt s p
    have hl := len_eq s
    show T (f_piece_Parse_l0_s n (f_piece_Parse_l0_i n m) letter pr side (s, p)) _
    unfold f_piece_Parse_l0_s
    simp only [T_br, T_some, T_none, T_ob, T_sm, lt_t, lt_f, le_t, le_f, eq_t, eq_f, inr_t, inr_f, inq_t, inq_f, not_t, not_f]
    repeat' (first | apply And.intro | intro _ | refine (ih (by omega)).use fun _ _ => ?_ | refine ( t_Up n _).use fun _ _ => ?_ | refine ( t_Of _ _).use fun _ _ => ?_ | split | simp only [T_br, T_some, T_none, T_ob, T_sm, lt_t, lt_f, le_t, le_f, eq_t, eq_f, inr_t, inr_f, inq_t, inq_f, not_t, not_f])
    all_goals (first | (subst_vars; simp; omega) | exact True.intro | assumption | rfl | omega | (simp only [true_and, and_true, false_and, and_false, or_false, false_or, true_or, or_true] <;> omega))
theorem t_PP5 (n : Nat) (hn : 100 ≤ n) (letter : Int) (pr : Bool) (side : Int) (hs : side = 0 ∨ side = 1) : T (f_piece_Parse_j5 n letter pr side) fun y => y.1 = 0 ∨ (1 ≤ y.1 ∧ y.1 ≤ 31 ∧ y.1 % 16 ≠ 0 ∧ y.1 % 16 ≠ 13 ∧ (pr = false → y.1 % 16 ≤ 8)) := by
  unfold f_piece_Parse_j5
  simp only [T_ob, T_sm]
  refine (t_PP_l n letter pr side hs _ (by decide) n 0 (by omega)).use fun y hy => ?_
  cases y with
  | inl v => exact hy
  | inr v => exact .inl rfl
theorem t_PP (n : Nat) (hn : 100 ≤ n) (letter : Int) (pr : Bool) : T (f_piece_Parse n letter pr) fun y => y.1 = 0 ∨ (1 ≤ y.1 ∧ y.1 ≤ 31 ∧ y.1 % 16 ≠ 0 ∧ y.1 % 16 ≠ 13 ∧ (pr = false → y.1 % 16 ≤ 8)) := by
  unfold f_piece_Parse
  simp only [T_br, T_some, T_none, T_ob, T_sm, lt_t, lt_f, le_t, le_f, eq_t, eq_f, inr_t, inr_f, inq_t, inq_f, not_t, not_f]
  repeat' (first | apply And.intro | intro _ | refine (t_PP5 n hn _ pr 1 (.inr rfl)).use fun _ _ => ?_ | refine ( t_PP5 n hn _ pr 0 (.inl rfl)).use fun _ _ => ?_ | split | simp only [T_br, T_some, T_none, T_ob, T_sm, lt_t, lt_f, le_t, le_f, eq_t, eq_f, inr_t, inr_f, inq_t, inq_f, not_t, not_f])
  all_goals (first | exact True.intro | assumption | rfl | omega | (simp only [true_and, and_true, false_and, and_false, or_false, false_or, true_or, or_true] <;> omega))

theorem ws32_in (a b : Int) : ws .i32 a b = a - b ∨ a - b < -2147483648 ∨ 2147483647 < a - b := by
  unfold ws
  by_cases h : -2147483648 ≤ a - b ∧ a - b ≤ 2147483647
  · left; exact IntWalk.i32_in _ (by omega)
  · right; omega
/-! ### sfen -/
theorem t_ranks_l (n : Nat) (hn : 100 ≤ n) (s : ByteArray) : ∀ (m : Nat) (f : Int) (k : Int) (pl : Bool) (la : Int) (h5 : List Int) (h6 : List Int) (p : Nat), (-1 ≤ f ∧ f ≤ 8 ∧ 0 ≤ k ∧ k ≤ 8) → s.size - p < m → T (f_sfen_ranks_l0_i n m f k pl la h5 h6 (s, p)) fun _ => True
  | 0, f, k, pl, la, h5, h6, p, hI, hm => by omega
  | m + 1, f, k, pl, la, h5, h6, p, hI, hm => by
    have ih := t_ranks_l n hn s m
    have hw := wid_gt s p
    have hl := len_eq s
    show T (f_sfen_ranks_l0_s n (f_sfen_ranks_l0_i n m) f k pl la h5 h6 (s, p)) _
    unfold f_sfen_ranks_l0_s
    simp only [T_br, T_some, T_none, T_ob, T_sm, lt_t, lt_f, le_t, le_f, eq_t, eq_f, inr_t, inr_f, inq_t, inq_f, not_t, not_f, f_sfen_ranks_j26]
    have := ws32_in (runeD s p) 48
    have :=  wr64_in (ws .i32 (runeD s p) 48)
    have :=  ws_in f (wr .i64 (ws .i32 (runeD s p) 48))
    have :=  wa_in k 1
    have :=  ws_in f 1
    repeat' (first | apply And.intro | intro _ | refine (ih _ _ _ _ _ _ _ (by omega) (by omega)).use fun _ _ => ?_ | refine ( t_PP n hn _ _).use fun _ _ => ?_ | refine ( t_Square _ _).use fun _ _ => ?_ | split | simp only [T_br, T_some, T_none, T_ob, T_sm, lt_t, lt_f, le_t, le_f, eq_t, eq_f, inr_t, inr_f, inq_t, inq_f, not_t, not_f, f_sfen_ranks_j26])
    all_goals (first | exact True.intro | assumption | rfl | omega | (simp only [true_and, and_true, false_and, and_false, or_false, false_or, true_or, or_true] <;> omega))
theorem t_ranks (n : Nat) (s : ByteArray) (hn : 100 ≤ n) (hs : s.size < n) : T (f_sfen_ranks n s) fun _ => True := by
  unfold f_sfen_ranks f_sfen_ranks_l0
  simp only [T_br, T_some, T_none, T_ob, T_sm, lt_t, lt_f, le_t, le_f, eq_t, eq_f, inr_t, inr_f, inq_t, inq_f, not_t, not_f]
  repeat' (first | apply And.intro | intro _ | refine (t_ranks_l n hn s n _ _ _ _ _ _ _ (by omega) (by omega)).use fun _ _ => ?_ | split | simp only [T_br, T_some, T_none, T_ob, T_sm, lt_t, lt_f, le_t, le_f, eq_t, eq_f, inr_t, inr_f, inq_t, inq_f, not_t, not_f])
  all_goals (first | exact True.intro | assumption | rfl | omega | (simp only [true_and, and_true, false_and, and_false, or_false, false_or, true_or, or_true] <;> omega))

theorem t_PPf (n : Nat) (hn : 100 ≤ n) (letter : Int) : T (f_piece_Parse n letter false) fun y => y.1 = 0 ∨ (1 ≤ y.1 ∧ y.1 ≤ 31 ∧ y.1 % 16 ≠ 0 ∧ y.1 % 16 ≠ 13 ∧ y.1 % 16 ≤ 8) :=
  (t_PP n hn letter false).use fun y hy => hy.imp id fun h => ⟨h.1, h.2.1, h.2.2.1, h.2.2.2.1, h.2.2.2.2 rfl⟩
theorem t_h17 (n : Nat) (s : ByteArray) (a p k : Int) (h24 h25 : List Int) (h26 : ByteArray × Nat) (hp : 1 ≤ p ∧ p ≤ 31 ∧ p % 16 ≠ 0 ∧ p % 16 ≠ 13) (hk : 1 ≤ k ∧ k ≤ 7) : T (f_sfen_hands_j17 n s a p k h24 h25 h26) fun y => y.1.1 = s ∧ y.2.2.2 = h26 ∧ y.1.2.2.2.1 = 0 := by
  unfold f_sfen_hands_j17
  simp only [T_br, T_some, T_none, T_ob, T_sm, lt_t, lt_f, le_t, le_f, eq_t, eq_f, inr_t, inr_f, inq_t, inq_f, not_t, not_f]
  repeat' (first | apply And.intro | intro _ | refine (t_Side p).use fun _ _ => ?_ | split | simp only [T_br, T_some, T_none, T_ob, T_sm, lt_t, lt_f, le_t, le_f, eq_t, eq_f, inr_t, inr_f, inq_t, inq_f, not_t, not_f])
  all_goals (first | (refine ⟨?_, ?_⟩ <;> rfl) | exact True.intro | assumption | rfl | omega | (simp only [true_and, and_true, false_and, and_false, or_false, false_or, true_or, or_true] <;> omega))

theorem t_h13 (n : Nat) (hn : 100 ≤ n) (s : ByteArray) (a d x : Int) (h11 h12 : List Int) (h13 : ByteArray × Nat) : T (f_sfen_hands_j13 n s a d x h11 h12 h13) fun y => match y with | .inl _ => True | .inr v => v.1.1 = s ∧ v.2.2.2 = h13 := by
  unfold f_sfen_hands_j13
  simp only [T_br, T_some, T_none, T_ob, T_sm, lt_t, lt_f, le_t, le_f, eq_t, eq_f, inr_t, inr_f, inq_t, inq_f, not_t, not_f]
  repeat' (first | apply And.intro | intro _ | refine (t_PPf n hn _).use fun _ _ => ?_ | refine ( t_Kind _).use fun _ _ => ?_ | refine ( t_Side _).use fun _ _ => ?_ | refine ( t_h17 n _ _ _ _ _ _ _ (by omega) (by omega)).use fun _ _ => ?_ | split | simp only [T_br, T_some, T_none, T_ob, T_sm, lt_t, lt_f, le_t, le_f, eq_t, eq_f, inr_t, inr_f, inq_t, inq_f, not_t, not_f])
  all_goals (first | (rename_i q; first | exact q.1 | exact q.2.1) | exact True.intro | assumption | rfl | omega | (simp only [true_and, and_true, false_and, and_false, or_false, false_or, true_or, or_true] <;> omega))

theorem t_hands_l (n : Nat) (hn : 100 ≤ n) (s : ByteArray) : ∀ (m : Nat) (s1 : ByteArray) (a : Int) (d : Int) (h4 : List Int) (h5 : List Int) (p : Nat), s.size - p < m → T (f_sfen_hands_l0_i n m s1 a d h4 h5 (s, p)) fun _ => True
  | 0, s1, a, d, h4, h5, p, hm => by omega
  | m + 1, s1, a, d, h4, h5, p, hm => by
    have ih := t_hands_l n hn s m
    have hw := wid_gt s p
    have hl := len_eq s
    show T (f_sfen_hands_l0_s n (f_sfen_hands_l0_i n m) s1 a d h4 h5 (s, p)) _
    unfold f_sfen_hands_l0_s
    simp only [T_br, T_some, T_none, T_ob, T_sm, lt_t, lt_f, le_t, le_f, eq_t, eq_f, inr_t, inr_f, inq_t, inq_f, not_t, not_f]
    repeat' (first | apply And.intro | intro _ | refine (ih _ _ _ _ _ _ (by omega)).use fun _ _ => ?_ | refine ( t_h13 n hn _ _ _ _ _ _ _).use fun _ _ => ?_ | split | simp only [T_br, T_some, T_none, T_ob, T_sm, lt_t, lt_f, le_t, le_f, eq_t, eq_f, inr_t, inr_f, inq_t, inq_f, not_t, not_f])
    all_goals (first | (rename_i q; rw [show (_ : ByteArray × Nat) = _ from q.2]; exact ih _ _ _ _ _ _ (by omega)) | exact True.intro | assumption | rfl | omega | (simp only [true_and, and_true, false_and, and_false, or_false, false_or, true_or, or_true] <;> omega))
theorem t_hands (n : Nat) (s : ByteArray) (hn : 100 ≤ n) (hs : s.size < n) : T (f_sfen_hands n s) fun _ => True := by
  unfold f_sfen_hands f_sfen_hands_l0
  simp only [T_br, T_some, T_none, T_ob, T_sm, lt_t, lt_f, le_t, le_f, eq_t, eq_f, inr_t, inr_f, inq_t, inq_f, not_t, not_f]
  repeat' (first | apply And.intro | intro _ | refine (t_hands_l n hn s n _ _ _ _ _ _ (by omega)).use fun _ _ => ?_ | split | simp only [T_br, T_some, T_none, T_ob, T_sm, lt_t, lt_f, le_t, le_f, eq_t, eq_f, inr_t, inr_f, inq_t, inq_f, not_t, not_f])
  all_goals (first | exact True.intro | assumption | rfl | omega | (simp only [true_and, and_true, false_and, and_false, or_false, false_or, true_or, or_true] <;> omega))

/-! ### board -/
theorem t_Put7 (n : Nat) (q x : Int) (h : List Int × List (Int × Int × Unit) × List (Int × Int × Unit) × Unit) (hq : 0 ≤ q ∧ q < 81) (hx : x = 0 ∨ (1 ≤ x ∧ x ≤ 31 ∧ x % 16 ≠ 0 ∧ x % 16 ≠ 13)) : T (f_board_Board_Put_j7 n q x h) fun y => y.2.1 = h.1.set q.toNat x := by
  unfold f_board_Board_Put_j7
  simp only [T_br, T_some, T_none, T_ob, T_sm, lt_t, lt_f, le_t, le_f, eq_t, eq_f, inr_t, inr_f, inq_t, inq_f, not_t, not_f]
  repeat' (first | apply And.intro | intro _ | refine (t_Side x).use fun _ _ => ?_ | refine ( t_With _ _).use fun _ _ => ?_ | split | simp only [T_br, T_some, T_none, T_ob, T_sm, lt_t, lt_f, le_t, le_f, eq_t, eq_f, inr_t, inr_f, inq_t, inq_f, not_t, not_f])
  all_goals (first | exact True.intro | assumption | rfl | omega | (simp only [true_and, and_true, false_and, and_false, or_false, false_or, true_or, or_true] <;> omega))

def PC (x : Int) : Prop := x = 0 ∨ (1 ≤ x ∧ x ≤ 31 ∧ x % 16 ≠ 0 ∧ x % 16 ≠ 13)
structure PS (l l' : List Int) (q : Nat) : Prop where get : ∃ z, PC z ∧ l' = l.set q z
theorem t_Put5 (n : Nat) (q x : Int) (h : List Int × List (Int × Int × Unit) × List (Int × Int × Unit) × Unit) (hq : 0 ≤ q ∧ q < 81) : T (f_board_Board_Put_j5 n q x h) fun y => PS h.1 y.2.1 q.toNat := by
  unfold f_board_Board_Put_j5
  simp only [T_br, T_some, T_none, T_ob, T_sm, lt_t, lt_f, le_t, le_f, eq_t, eq_f, inr_t, inr_f, inq_t, inq_f, not_t, not_f]
  repeat' (first | apply And.intro | intro _ | refine (t_Kind x).use fun _ _ => ?_ | refine ( t_Put7 n q _ h hq (by omega)).use fun _ _ => ?_ | split | simp only [T_br, T_some, T_none, T_ob, T_sm, lt_t, lt_f, le_t, le_f, eq_t, eq_f, inr_t, inr_f, inq_t, inq_f, not_t, not_f])
  all_goals (first | (rename_i e; exact ⟨_, (by unfold PC; omega), e⟩) | exact True.intro | assumption | rfl | omega | (simp only [true_and, and_true, false_and, and_false, or_false, false_or, true_or, or_true] <;> omega))

/-- Each square holds a piece or none. -/
structure BI (h : List Int × List (Int × Int × Unit) × List (Int × Int × Unit) × Unit) : Prop where get : ∀ i : Nat, i < 81 → PC (h.1.getD i 0)
theorem bi_set {h h' : List Int × List (Int × Int × Unit) × List (Int × Int × Unit) × Unit} {j : Nat} (hb : BI h) (he : PS h.1 h'.1 j) : BI h' := ⟨fun i hi => by
  obtain ⟨z, h1, e⟩ := he.get
  rw [e]
  have := hb.get i hi
  rcases set_or h.1 j i z with e | e <;> rw [e] <;> assumption⟩
theorem t_Put (n : Nat) (q x : Int) (h : List Int × List (Int × Int × Unit) × List (Int × Int × Unit) × Unit) (hb : BI h) : T (f_board_Board_Put n q x h) fun y => BI y.2.1 := by
  unfold f_board_Board_Put
  have hv : 0 ≤ q → q < 81 → PC (h.1.getD q.toNat 0) := fun h0 h1 => hb.get _ (by omega)
  unfold PC at hv
  simp only [T_br, T_some, T_none, T_ob, T_sm, lt_t, lt_f, le_t, le_f, eq_t, eq_f, inr_t, inr_f, inq_t, inq_f, not_t, not_f]
  repeat' (first | apply And.intro | intro _ | refine (t_Side _).use fun _ _ => ?_ | refine ( t_Without _ _).use fun _ _ => ?_ | refine ( t_Put5 n q x _ (by omega)).use fun _ _ => ?_ | split | simp only [T_br, T_some, T_none, T_ob, T_sm, lt_t, lt_f, le_t, le_f, eq_t, eq_f, inr_t, inr_f, inq_t, inq_f, not_t, not_f])
  all_goals (first | (rename_i e; exact bi_set hb e) | (exfalso; have := hv (by omega) (by omega); omega) | exact True.intro | assumption | rfl | omega | (simp only [true_and, and_true, false_and, and_false, or_false, false_or, true_or, or_true] <;> omega))

theorem t_New_l (n : Nat)  : ∀ (m : Nat) (c : List Int) (t : Int) (h : List Int × List (Int × Int × Unit) × List (Int × Int × Unit) × Unit), (0 ≤ t ∧ BI h) → (81 - t).toNat < m → T (f_board_New_l0_i n m c t h) fun y => BI y.2
  | 0, c, t, h, hI, hm => by omega
  | m + 1, c, t, h, hI, hm => by
    have ih := t_New_l n  m
    show T (f_board_New_l0_s n (f_board_New_l0_i n m) c t h) _
    unfold f_board_New_l0_s
    simp only [T_br, T_some, T_none, T_ob, T_sm, lt_t, lt_f, le_t, le_f, eq_t, eq_f, inr_t, inr_f, inq_t, inq_f, not_t, not_f]
    have := wa_in t 1
    repeat' (first | apply And.intro | intro _ | refine (ih _ _ _ ⟨by omega, by assumption⟩ (by omega)).use fun _ _ => ?_ | refine ( t_Put n _ _ h hI.2).use fun _ _ => ?_ | split | simp only [T_br, T_some, T_none, T_ob, T_sm, lt_t, lt_f, le_t, le_f, eq_t, eq_f, inr_t, inr_f, inq_t, inq_f, not_t, not_f])
    all_goals (first | exact hI.2 | exact True.intro | assumption | rfl | omega | (simp only [true_and, and_true, false_and, and_false, or_false, false_or, true_or, or_true] <;> omega))
theorem t_New (n : Nat) (hn : 100 ≤ n) (p : List Int) : T (f_board_New n p) fun y => BI y.2.2 := by
  unfold f_board_New f_board_New_l0
  simp only [T_ob, T_some]
  refine (t_New_l n n _ 0 _ ⟨by omega, ⟨fun i hi => .inl ?_⟩⟩ (by omega)).use fun y hy => hy
  show List.getD ((((List.replicate 98 (0 : Int)).take 81 ++ (List.take 16 (List.drop 81 p)) ++ (List.replicate 98 (0 : Int)).drop 97).set 97 (p.getD 97 0))) i 0 = 0
  rw [List.getD_eq_getElem?_getD, List.getElem?_set_ne (by omega), List.append_assoc, List.getElem?_append_left (by rw [List.length_take, List.length_replicate]; omega), List.getElem?_take_of_lt hi, List.getElem?_replicate]
  split <;> rfl
theorem t_BOf (side kind : Int) (b : List (List Int × List (Int × Int × Unit) × List (Int × Int × Unit) × Unit)) : T (f_board_Board_Of side kind b) fun _ => True := by
  unfold f_board_Board_Of
  simp only [T_br, T_some, T_none, T_ob, T_sm, lt_t, lt_f, le_t, le_f, eq_t, eq_f, inr_t, inr_f, inq_t, inq_f, not_t, not_f]
  repeat' (first | apply And.intro | intro _ | refine (t_Of _ _).use fun _ _ => ?_ | split | simp only [T_br, T_some, T_none, T_ob, T_sm, lt_t, lt_f, le_t, le_f, eq_t, eq_f, inr_t, inr_f, inq_t, inq_f, not_t, not_f])
  all_goals (first | exact True.intro | assumption | rfl | omega | (simp only [true_and, and_true, false_and, and_false, or_false, false_or, true_or, or_true] <;> omega))

theorem t_InFile_l (n : Nat)  : ∀ (m : Nat) (c : Int) (t : Int) (h3 : Int × Int × Unit) (h4 : Int × Int × Unit), (0 ≤ t) → (9 - t).toNat < m → T (f_set_InFile_l0_i n m c t h3 h4) fun _ => True
  | 0, c, t, h3, h4, hI, hm => by omega
  | m + 1, c, t, h3, h4, hI, hm => by
    have ih := t_InFile_l n  m
    show T (f_set_InFile_l0_s n (f_set_InFile_l0_i n m) c t h3 h4) _
    unfold f_set_InFile_l0_s
    simp only [T_br, T_some, T_none, T_ob, T_sm, lt_t, lt_f, le_t, le_f, eq_t, eq_f, inr_t, inr_f, inq_t, inq_f, not_t, not_f]
    have := wa_in t 1
    repeat' (first | apply And.intro | intro _ | refine (ih _ _ _ _ (by omega) (by omega)).use fun _ _ => ?_ | refine ( t_Square _ _).use fun _ _ => ?_ | refine ( t_With _ _).use fun _ _ => ?_ | split | simp only [T_br, T_some, T_none, T_ob, T_sm, lt_t, lt_f, le_t, le_f, eq_t, eq_f, inr_t, inr_f, inq_t, inq_f, not_t, not_f])
    all_goals (first | exact True.intro | assumption | rfl | omega | (simp only [true_and, and_true, false_and, and_false, or_false, false_or, true_or, or_true] <;> omega))
theorem t_InFile (n : Nat) (hn : 100 ≤ n) (c : Int) : T (f_set_InFile n c) fun _ => True := by
  unfold f_set_InFile f_set_InFile_l0
  simp only [T_br, T_some, T_none, T_ob, T_sm, lt_t, lt_f, le_t, le_f, eq_t, eq_f, inr_t, inr_f, inq_t, inq_f, not_t, not_f]
  repeat' (first | apply And.intro | intro _ | refine (t_InFile_l n n _ 0 _ _ (by omega) (by omega)).use fun _ _ => ?_ | split | simp only [T_br, T_some, T_none, T_ob, T_sm, lt_t, lt_f, le_t, le_f, eq_t, eq_f, inr_t, inr_f, inq_t, inq_f, not_t, not_f])
  all_goals (first | exact True.intro | assumption | rfl | omega | (simp only [true_and, and_true, false_and, and_false, or_false, false_or, true_or, or_true] <;> omega))

theorem t_files0 (n : Nat)  : ∀ (m : Nat) (c : List Int) (t : Int) (h3 : List Int), (0 ≤ t) → (81 - t).toNat < m → T (f_board_files_l0_i n m c t h3) fun _ => True
  | 0, c, t, h3, hI, hm => by omega
  | m + 1, c, t, h3, hI, hm => by
    have ih := t_files0 n  m
    show T (f_board_files_l0_s n (f_board_files_l0_i n m) c t h3) _
    unfold f_board_files_l0_s
    simp only [T_br, T_some, T_none, T_ob, T_sm, lt_t, lt_f, le_t, le_f, eq_t, eq_f, inr_t, inr_f, inq_t, inq_f, not_t, not_f]
    have := wa_in t 1
    repeat' (first | apply And.intro | intro _ | refine (ih _ _ _ (by omega) (by omega)).use fun _ _ => ?_ | refine ( t_Dead _ _).use fun _ _ => ?_ | split | simp only [T_br, T_some, T_none, T_ob, T_sm, lt_t, lt_f, le_t, le_f, eq_t, eq_f, inr_t, inr_f, inq_t, inq_f, not_t, not_f])
    all_goals (first | exact True.intro | assumption | rfl | omega | (simp only [true_and, and_true, false_and, and_false, or_false, false_or, true_or, or_true] <;> omega))
theorem t_files4 (n : Nat) (hn : 100 ≤ n) : ∀ (m : Nat) (c : Int) (d : Int) (t : Int) (h3 : List Int × List (Int × Int × Unit) × List (Int × Int × Unit) × Unit), (0 ≤ t) → (2 - t).toNat < m → T (f_board_files_l4_i n m c d t h3) fun y => match y with | .inl _ => True | .inr v => v.1.2 = d
  | 0, c, d, t, h3, hI, hm => by omega
  | m + 1, c, d, t, h3, hI, hm => by
    have ih := t_files4 n hn m
    show T (f_board_files_l4_s n (f_board_files_l4_i n m) c d t h3) _
    unfold f_board_files_l4_s
    simp only [T_br, T_some, T_none, T_ob, T_sm, lt_t, lt_f, le_t, le_f, eq_t, eq_f, inr_t, inr_f, inq_t, inq_f, not_t, not_f]
    have := wa_in t 1
    repeat' (first | apply And.intro | intro _ | refine (ih _ _ _ _ (by omega) (by omega)).use fun _ _ => ?_ | refine ( t_BOf _ _ _).use fun _ _ => ?_ | refine ( t_InFile n hn _).use fun _ _ => ?_ | split | simp only [T_br, T_some, T_none, T_ob, T_sm, lt_t, lt_f, le_t, le_f, eq_t, eq_f, inr_t, inr_f, inq_t, inq_f, not_t, not_f])
    all_goals (first | exact True.intro | assumption | rfl | omega | (simp only [true_and, and_true, false_and, and_false, or_false, false_or, true_or, or_true] <;> omega))
theorem t_files2 (n : Nat) (hn : 100 ≤ n) : ∀ (m : Nat) (t : Int) (h3 : List Int × List (Int × Int × Unit) × List (Int × Int × Unit) × Unit), (0 ≤ t) → (9 - t).toNat < m → T (f_board_files_l2_i n m t h3) fun _ => True
  | 0, t, h3, hI, hm => by omega
  | m + 1, t, h3, hI, hm => by
    have ih := t_files2 n hn m
    show T (f_board_files_l2_s n (f_board_files_l2_i n m) t h3) _
    unfold f_board_files_l2_s
    simp only [T_br, T_some, T_none, T_ob, T_sm, lt_t, lt_f, le_t, le_f, eq_t, eq_f, inr_t, inr_f, inq_t, inq_f, not_t, not_f, f_board_files_l4]
    have := wa_in t 1
    repeat' (first | apply And.intro | intro _ | refine (ih _ _ (by omega) (by omega)).use fun _ _ => ?_ | refine ( t_files4 n hn n _ _ 0 _ (by omega) (by omega)).use fun _ _ => ?_ | split | simp only [T_br, T_some, T_none, T_ob, T_sm, lt_t, lt_f, le_t, le_f, eq_t, eq_f, inr_t, inr_f, inq_t, inq_f, not_t, not_f, f_board_files_l4])
    all_goals (first | (rename_i b h; rw [show b.1.2 = t from h]; exact ih _ _ (by omega) (by omega)) | exact True.intro | assumption | rfl | omega | (simp only [true_and, and_true, false_and, and_false, or_false, false_or, true_or, or_true] <;> omega))
theorem t_files (n : Nat) (hn : 100 ≤ n) (p : List Int) : T (f_board_files n p) fun _ => True := by
  unfold f_board_files f_board_files_l0 f_board_files_l2
  simp only [T_br, T_some, T_none, T_ob, T_sm, lt_t, lt_f, le_t, le_f, eq_t, eq_f, inr_t, inr_f, inq_t, inq_f, not_t, not_f]
  repeat' (first | apply And.intro | intro _ | refine (t_files0 n n _ 0 _ (by omega) (by omega)).use fun _ _ => ?_ | refine ( t_files2 n hn n 0 _ (by omega) (by omega)).use fun _ _ => ?_ | refine ( t_New n hn _).use fun _ _ => ?_ | split | simp only [T_br, T_some, T_none, T_ob, T_sm, lt_t, lt_f, le_t, le_f, eq_t, eq_f, inr_t, inr_f, inq_t, inq_f, not_t, not_f])
  all_goals (first | exact True.intro | assumption | rfl | omega | (simp only [true_and, and_true, false_and, and_false, or_false, false_or, true_or, or_true] <;> omega))

theorem t_Check0 (n : Nat)  : ∀ (m : Nat) (c : List Int) (t : Int) (h4 : List Int) (h5 : List Int) (h6 : List Int), (0 ≤ t) → (81 - t).toNat < m → T (f_board_Check_l0_i n m c t h4 h5 h6) fun _ => True
  | 0, c, t, h4, h5, h6, hI, hm => by omega
  | m + 1, c, t, h4, h5, h6, hI, hm => by
    have ih := t_Check0 n  m
    show T (f_board_Check_l0_s n (f_board_Check_l0_i n m) c t h4 h5 h6) _
    unfold f_board_Check_l0_s
    simp only [T_br, T_some, T_none, T_ob, T_sm, lt_t, lt_f, le_t, le_f, eq_t, eq_f, inr_t, inr_f, inq_t, inq_f, not_t, not_f]
    have := wa_in t 1
    repeat' (first | apply And.intro | intro _ | refine (ih _ _ _ _ _ (by omega) (by omega)).use fun _ _ => ?_ | refine ( t_Kind _).use fun _ _ => ?_ | refine ( t_Side _).use fun _ _ => ?_ | refine ( t_Raw _).use fun _ _ => ?_ | split | simp only [T_br, T_some, T_none, T_ob, T_sm, lt_t, lt_f, le_t, le_f, eq_t, eq_f, inr_t, inr_f, inq_t, inq_f, not_t, not_f])
    all_goals (first | exact True.intro | assumption | rfl | omega | (simp only [true_and, and_true, false_and, and_false, or_false, false_or, true_or, or_true] <;> omega))
theorem t_Check9 (n : Nat)  : ∀ (m : Nat) (c : List Int) (d : Int) (e : List Int) (t : Int) (h4 : List Int) (h5 : List Int) (h6 : List Int), (0 ≤ t) → (8 - t).toNat < m → T (f_board_Check_l9_i n m c d e t h4 h5 h6) fun y => match y with | .inl _ => True | .inr v => v.1.2.2.2.2 = d
  | 0, c, d, e, t, h4, h5, h6, hI, hm => by omega
  | m + 1, c, d, e, t, h4, h5, h6, hI, hm => by
    have ih := t_Check9 n  m
    show T (f_board_Check_l9_s n (f_board_Check_l9_i n m) c d e t h4 h5 h6) _
    unfold f_board_Check_l9_s
    simp only [T_br, T_some, T_none, T_ob, T_sm, lt_t, lt_f, le_t, le_f, eq_t, eq_f, inr_t, inr_f, inq_t, inq_f, not_t, not_f]
    have := wa_in t 1
    repeat' (first | apply And.intro | intro _ | refine (ih _ _ _ _ _ _ _ (by omega) (by omega)).use fun _ _ => ?_ | split | simp only [T_br, T_some, T_none, T_ob, T_sm, lt_t, lt_f, le_t, le_f, eq_t, eq_f, inr_t, inr_f, inq_t, inq_f, not_t, not_f])
    all_goals (first | exact True.intro | assumption | rfl | omega | (simp only [true_and, and_true, false_and, and_false, or_false, false_or, true_or, or_true] <;> omega))
theorem t_Check7 (n : Nat) (hn : 100 ≤ n) : ∀ (m : Nat) (c : List Int) (t : Int) (h4 : List Int) (h5 : List Int) (h6 : List Int), (0 ≤ t) → (2 - t).toNat < m → T (f_board_Check_l7_i n m c t h4 h5 h6) fun _ => True
  | 0, c, t, h4, h5, h6, hI, hm => by omega
  | m + 1, c, t, h4, h5, h6, hI, hm => by
    have ih := t_Check7 n hn m
    show T (f_board_Check_l7_s n (f_board_Check_l7_i n m) c t h4 h5 h6) _
    unfold f_board_Check_l7_s
    simp only [T_br, T_some, T_none, T_ob, T_sm, lt_t, lt_f, le_t, le_f, eq_t, eq_f, inr_t, inr_f, inq_t, inq_f, not_t, not_f, f_board_Check_l9]
    have := wa_in t 1
    repeat' (first | apply And.intro | intro _ | refine (ih _ _ _ _ _ (by omega) (by omega)).use fun _ _ => ?_ | refine ( t_Check9 n n _ _ _ 0 _ _ _ (by omega) (by omega)).use fun _ _ => ?_ | split | simp only [T_br, T_some, T_none, T_ob, T_sm, lt_t, lt_f, le_t, le_f, eq_t, eq_f, inr_t, inr_f, inq_t, inq_f, not_t, not_f, f_board_Check_l9])
    all_goals (first | (rename_i b h; rw [show b.1.2.2.2.2 = t from h]; exact ih _ _ _ _ _ (by omega) (by omega)) | exact True.intro | assumption | rfl | omega | (simp only [true_and, and_true, false_and, and_false, or_false, false_or, true_or, or_true] <;> omega))
theorem t_Check11 (n : Nat)  : ∀ (m : Nat) (t : Int) (h4 : List Int) (h5 : List Int), (0 ≤ t) → (8 - t).toNat < m → T (f_board_Check_l11_i n m t h4 h5) fun _ => True
  | 0, t, h4, h5, hI, hm => by omega
  | m + 1, t, h4, h5, hI, hm => by
    have ih := t_Check11 n  m
    show T (f_board_Check_l11_s n (f_board_Check_l11_i n m) t h4 h5) _
    unfold f_board_Check_l11_s
    simp only [T_br, T_some, T_none, T_ob, T_sm, lt_t, lt_f, le_t, le_f, eq_t, eq_f, inr_t, inr_f, inq_t, inq_f, not_t, not_f]
    have := wa_in t 1
    repeat' (first | apply And.intro | intro _ | refine (ih _ _ _ (by omega) (by omega)).use fun _ _ => ?_ | refine ( t_Total n _).use fun _ _ => ?_ | split | simp only [T_br, T_some, T_none, T_ob, T_sm, lt_t, lt_f, le_t, le_f, eq_t, eq_f, inr_t, inr_f, inq_t, inq_f, not_t, not_f])
    all_goals (first | exact True.intro | assumption | rfl | omega | (simp only [true_and, and_true, false_and, and_false, or_false, false_or, true_or, or_true] <;> omega))
theorem t_Check3 (n : Nat) (hn : 100 ≤ n) (p : List Int) : T (f_board_Check_j3 n p) fun _ => True := by
  unfold f_board_Check_j3 f_board_Check_l0 f_board_Check_l7 f_board_Check_l11
  simp only [T_br, T_some, T_none, T_ob, T_sm, lt_t, lt_f, le_t, le_f, eq_t, eq_f, inr_t, inr_f, inq_t, inq_f, not_t, not_f]
  repeat' (first | apply And.intro | intro _ | refine (t_Check0 n n _ 0 _ _ _ (by omega) (by omega)).use fun _ _ => ?_ | refine ( t_Check7 n hn n _ 0 _ _ _ (by omega) (by omega)).use fun _ _ => ?_ | refine ( t_Check11 n n 1 _ _ (by omega) (by omega)).use fun _ _ => ?_ | refine ( t_files n hn _).use fun _ _ => ?_ | split | simp only [T_br, T_some, T_none, T_ob, T_sm, lt_t, lt_f, le_t, le_f, eq_t, eq_f, inr_t, inr_f, inq_t, inq_f, not_t, not_f])
  all_goals (first | exact True.intro | assumption | rfl | omega | (simp only [true_and, and_true, false_and, and_false, or_false, false_or, true_or, or_true] <;> omega))

theorem t_Check (n : Nat) (hn : 100 ≤ n) (p : List Int) : T (f_board_Check n p) fun _ => True := by
  unfold f_board_Check
  simp only [T_br, T_some, T_none, T_ob, T_sm, lt_t, lt_f, le_t, le_f, eq_t, eq_f, inr_t, inr_f, inq_t, inq_f, not_t, not_f]
  repeat' (first | apply And.intro | intro _ | refine (t_Check3 n hn _).use fun _ _ => ?_ | split | simp only [T_br, T_some, T_none, T_ob, T_sm, lt_t, lt_f, le_t, le_f, eq_t, eq_f, inr_t, inr_f, inq_t, inq_f, not_t, not_f])
  all_goals (first | exact True.intro | assumption | rfl | omega | (simp only [true_and, and_true, false_and, and_false, or_false, false_or, true_or, or_true] <;> omega))

end Go.AM.T
end
/- Attack: it ends, and no test in it fails. -/
section
set_option maxRecDepth 100000
set_option linter.unusedVariables false
set_option linter.unusedSimpArgs false
namespace Go.AM.T
open Go Go.AM Go.Proofs
theorem tz_t (a : Int) : T (l_tz a) fun _ => True := by
  unfold l_tz
  split <;> trivial
theorem t_First (s : Int × Int × Unit) : T (f_set_Set_First s) fun _ => True := by
  unfold f_set_Set_First
  simp only [T_br, T_some, T_none, T_ob, T_sm, lt_t, lt_f, le_t, le_f, eq_t, eq_f, inr_t, inr_f, inq_t, inq_f, not_t, not_f]
  repeat' (first | apply And.intro | intro _ | refine (tz_t _).use fun _ _ => ?_ | split | simp only [T_br, T_some, T_none, T_ob, T_sm, lt_t, lt_f, le_t, le_f, eq_t, eq_f, inr_t, inr_f, inq_t, inq_f, not_t, not_f])
  all_goals (first | exact True.intro | assumption | rfl | omega | (simp only [true_and, and_true, false_and, and_false, or_false, false_or, true_or, or_true] <;> omega))

theorem t_King (side : Int) (b : List (List Int × List (Int × Int × Unit) × List (Int × Int × Unit) × Unit)) : T (f_board_Board_King side b) fun _ => True := by
  unfold f_board_Board_King
  simp only [T_br, T_some, T_none, T_ob, T_sm, lt_t, lt_f, le_t, le_f, eq_t, eq_f, inr_t, inr_f, inq_t, inq_f, not_t, not_f]
  repeat' (first | apply And.intro | intro _ | refine (t_BOf _ _ _).use fun _ _ => ?_ | refine ( t_First _).use fun _ _ => ?_ | split | simp only [T_br, T_some, T_none, T_ob, T_sm, lt_t, lt_f, le_t, le_f, eq_t, eq_f, inr_t, inr_f, inq_t, inq_f, not_t, not_f])
  all_goals (first | exact True.intro | assumption | rfl | omega | (simp only [true_and, and_true, false_and, and_false, or_false, false_or, true_or, or_true] <;> omega))

theorem t_Dirs21 (n : Nat) (q : _) (h : List (Int × Int × Unit)) : T (f_step_Dirs_j21 n q h) fun y => y.2 = h := rfl
theorem t_Dirs21b (n : Nat) (q : _) (h : Unit) : T (f_step_Dirs_j21b n q h) fun _ => True := trivial
theorem room_t (n : Int) : (room n = true) = (n ≤ 8589934592) := by
  unfold room
  cases n with
  | ofNat k => simp only [Nat.ble_eq, Int.ofNat_eq_natCast]; apply propext; omega
  | negSucc k => simp only [true_iff, eq_iff_iff]; omega
theorem room_f (n : Int) : (room n = false) = (8589934592 < n) := by
  have := room_t n
  cases h : room n <;> simp_all
theorem t_Dirs5 (n m : Nat) : T (f_step_Dirs_i n (m + 1) 5) fun y => match y with | .inl v => v.2.2.length = 6 | .inr _ => True := by
  show T (f_step_Dirs_s n (f_step_Dirs_i n m) 5) _
  unfold f_step_Dirs_s
  simp only [T_br, T_some, T_none, T_ob, T_sm, lt_t, lt_f, le_t, le_f, eq_t, eq_f, inr_t, inr_f, inq_t, inq_f, not_t, not_f, room_t, room_f]
  repeat' (first | apply And.intro | intro _ | refine (t_Dirs21 _ _ _).use fun _ _ => ?_ | refine ( t_Dirs21b _ _ _).use fun _ _ => ?_ | split | simp only [T_br, T_some, T_none, T_ob, T_sm, lt_t, lt_f, le_t, le_f, eq_t, eq_f, inr_t, inr_f, inq_t, inq_f, not_t, not_f, room_t, room_f])
  all_goals (first | (rename_i e; rw [e]; rfl) | exact True.intro | assumption | rfl | omega | (simp only [true_and, and_true, false_and, and_false, or_false, false_or, true_or, or_true] <;> omega))

theorem t_Dirs (n : Nat) (hn : 100 ≤ n) (k : Int) : T (f_step_Dirs n k) fun y => match y with | .inl v => v.2.2.length ≤ 8 | .inr _ => True := by
  obtain ⟨m, rfl⟩ : ∃ m, n = m + 2 := ⟨n - 2, by omega⟩
  generalize hN : m + 2 = N
  show T (f_step_Dirs_i N N k) _
  rw [← hN]
  have h5 := t_Dirs5 (m + 2) m
  show T (f_step_Dirs_s (m + 2) (f_step_Dirs_i (m + 2) (m + 1)) k) _
  unfold f_step_Dirs_s
  simp only [T_br, T_some, T_none, T_ob, T_sm, lt_t, lt_f, le_t, le_f, eq_t, eq_f, inr_t, inr_f, inq_t, inq_f, not_t, not_f, room_t, room_f]
  repeat' (first | apply And.intro | intro _ | refine (t_Dirs21 _ _ _).use fun _ _ => ?_ | refine ( t_Dirs21b _ _ _).use fun _ _ => ?_ | refine ( h5).use fun _ _ => ?_ | split | simp only [T_br, T_some, T_none, T_ob, T_sm, lt_t, lt_f, le_t, le_f, eq_t, eq_f, inr_t, inr_f, inq_t, inq_f, not_t, not_f, room_t, room_f])
  all_goals (first | (rename_i e; rw [e]; first | (simp only [List.length_cons, List.length_nil]; omega) | (simp only [List.append_eq, List.length_append, List.length_cons, List.length_nil]; omega)) | exact True.intro | assumption | rfl | omega | (simp only [true_and, and_true, false_and, and_false, or_false, false_or, true_or, or_true] <;> omega))

theorem t_Turn (d : Int × Int × Unit) (s : Int) : T (f_step_Dir_Turn d s) fun y => (y.1 = d ∨ (y.1.1 = ws .i64 0 d.1 ∧ y.1.2.1 = ws .i64 0 d.2.1)) := by
  unfold f_step_Dir_Turn
  simp only [T_br, T_some, T_none, T_ob, T_sm, lt_t, lt_f, le_t, le_f, eq_t, eq_f, inr_t, inr_f, inq_t, inq_f, not_t, not_f]
  repeat' (first | apply And.intro | intro _ | split | simp only [T_br, T_some, T_none, T_ob, T_sm, lt_t, lt_f, le_t, le_f, eq_t, eq_f, inr_t, inr_f, inq_t, inq_f, not_t, not_f])
  all_goals (first | (left; rfl) | (right; exact ⟨rfl, rfl⟩) | exact True.intro | assumption | rfl | omega | (simp only [true_and, and_true, false_and, and_false, or_false, false_or, true_or, or_true] <;> omega))

theorem qu9 (q : Int) (h0 : 0 ≤ q) (h1 : q ≤ 80) : qu .i64 q 9 = q / 9 := by
  unfold qu
  have h : q.tdiv 9 = q / 9 := Int.tdiv_eq_ediv_of_nonneg h0
  rw [h]
  exact IntWalk.i64_in _ (by omega)
theorem rm9 (q : Int) (h0 : 0 ≤ q) : rm q 9 = q % 9 := by
  unfold rm
  exact Int.tmod_eq_emod_of_nonneg h0
theorem t_From (d : Int × Int × Unit) (q : Int) : T (f_step_Dir_From d q) fun y => y.1 = -1 ∨ (0 ≤ q ∧ q ≤ 80 ∧ 0 ≤ q / 9 + d.1 ∧ q / 9 + d.1 ≤ 8 ∧ 0 ≤ q % 9 + d.2.1 ∧ q % 9 + d.2.1 ≤ 8 ∧ y.1 = 9 * (q / 9 + d.1) + (q % 9 + d.2.1)) := by
  unfold f_step_Dir_From f_set_File f_set_Rank
  have h1 : 0 ≤ q → q < 81 → qu .i64 q 9 = q / 9 := fun a b => qu9 q a (by omega)
  have h2 : 0 ≤ q → rm q 9 = q % 9 := fun a => rm9 q a
  simp only [T_br, T_some, T_none, T_ob, T_sm, lt_t, lt_f, le_t, le_f, eq_t, eq_f, inr_t, inr_f, inq_t, inq_f, not_t, not_f]
  have := wa_in (qu .i64 q 9) d.1
  have :=  wa_in (rm q 9) d.2.1
  repeat' (first | apply And.intro | intro _ | refine (t_Square _ _).use fun _ _ => ?_ | split | simp only [T_br, T_some, T_none, T_ob, T_sm, lt_t, lt_f, le_t, le_f, eq_t, eq_f, inr_t, inr_f, inq_t, inq_f, not_t, not_f])
  all_goals (first | exact True.intro | assumption | rfl | omega | (simp only [true_and, and_true, false_and, and_false, or_false, false_or, true_or, or_true] <;> omega))

theorem t_Of_l (n : Nat)  : ∀ (m : Nat) (p : Int) (q : Int) (t : Int) (u : Int) (h1 : Int × Int × Unit) (h2 : Int × Int × Unit) (h3 : List (Int × Int × Unit)), (0 ≤ u ∧ t ≤ h3.length ∧ (h3.length : Int) ≤ 8) → (t - u).toNat < m → T (f_step_Of_l0_i n m p q t u h1 h2 h3) fun _ => True
  | 0, p, q, t, u, h1, h2, h3, hI, hm => by omega
  | m + 1, p, q, t, u, h1, h2, h3, hI, hm => by
    have ih := t_Of_l n  m
    show T (f_step_Of_l0_s n (f_step_Of_l0_i n m) p q t u h1 h2 h3) _
    unfold f_step_Of_l0_s
    simp only [T_br, T_some, T_none, T_ob, T_sm, lt_t, lt_f, le_t, le_f, eq_t, eq_f, inr_t, inr_f, inq_t, inq_f, not_t, not_f]
    have := wa_in u 1
    repeat' (first | apply And.intro | intro _ | refine (ih _ _ _ _ _ _ _ (by omega) (by omega)).use fun _ _ => ?_ | refine ( t_Side _).use fun _ _ => ?_ | refine ( t_Turn _ _).use fun _ _ => ?_ | refine ( t_From _ _).use fun _ _ => ?_ | refine ( t_With _ _).use fun _ _ => ?_ | split | simp only [T_br, T_some, T_none, T_ob, T_sm, lt_t, lt_f, le_t, le_f, eq_t, eq_f, inr_t, inr_f, inq_t, inq_f, not_t, not_f])
    all_goals (first | exact True.intro | assumption | rfl | omega | (simp only [true_and, and_true, false_and, and_false, or_false, false_or, true_or, or_true] <;> omega))
theorem t_Of_lb (n : Nat)  : ∀ (m : Nat) (p : Int) (q : Int) (t : Int) (u : Int) (h1 : Int × Int × Unit) (h2 : Int × Int × Unit), (t ≤ u) → 0 < m → T (f_step_Of_l0b_i n m p q t u h1 h2) fun _ => True
  | 0, p, q, t, u, h1, h2, hI, hm => by omega
  | m + 1, p, q, t, u, h1, h2, hI, hm => by
    have ih := t_Of_lb n  m
    show T (f_step_Of_l0b_s n (f_step_Of_l0b_i n m) p q t u h1 h2) _
    unfold f_step_Of_l0b_s
    simp only [T_br, T_some, T_none, T_ob, T_sm, lt_t, lt_f, le_t, le_f, eq_t, eq_f, inr_t, inr_f, inq_t, inq_f, not_t, not_f]
    repeat' (first | apply And.intro | intro _ | split | simp only [T_br, T_some, T_none, T_ob, T_sm, lt_t, lt_f, le_t, le_f, eq_t, eq_f, inr_t, inr_f, inq_t, inq_f, not_t, not_f])
    all_goals (first | exact True.intro | assumption | rfl | omega | (simp only [true_and, and_true, false_and, and_false, or_false, false_or, true_or, or_true] <;> omega))
theorem t_StepOf (n : Nat) (hn : 100 ≤ n) (p q : Int) : T (f_step_Of n p q) fun _ => True := by
  unfold f_step_Of f_step_Of_l0 f_step_Of_l0b
  simp only [T_br, T_some, T_none, T_ob, T_sm, lt_t, lt_f, le_t, le_f, eq_t, eq_f, inr_t, inr_f, inq_t, inq_f, not_t, not_f]
  repeat' (first | apply And.intro | intro _ | refine (t_Kind _).use fun _ _ => ?_ | refine ( t_Dirs n hn _).use fun _ _ => ?_ | refine ( t_Of_l n n _ _ _ 0 _ _ _ (by omega) (by omega)).use fun _ _ => ?_ | refine ( t_Of_lb n n _ _ 0 0 _ _ (by omega) (by omega)).use fun _ _ => ?_ | split | simp only [T_br, T_some, T_none, T_ob, T_sm, lt_t, lt_f, le_t, le_f, eq_t, eq_f, inr_t, inr_f, inq_t, inq_f, not_t, not_f])
  all_goals (first | exact True.intro | assumption | rfl | omega | (simp only [true_and, and_true, false_and, and_false, or_false, false_or, true_or, or_true] <;> omega))

theorem t_ray_Dirs (k : Int) : T (f_ray_Dirs k) fun y => match y with | .inl v => v.2.2.length ≤ 8 | .inr _ => True := by
  unfold f_ray_Dirs
  simp only [T_br, T_some, T_none, T_ob, T_sm, lt_t, lt_f, le_t, le_f, eq_t, eq_f, inr_t, inr_f, inq_t, inq_f, not_t, not_f]
  repeat' (first | apply And.intro | intro _ | split | simp only [T_br, T_some, T_none, T_ob, T_sm, lt_t, lt_f, le_t, le_f, eq_t, eq_f, inr_t, inr_f, inq_t, inq_f, not_t, not_f])
  all_goals (first | decide | exact True.intro | assumption | rfl | omega | (simp only [true_and, and_true, false_and, and_false, or_false, false_or, true_or, or_true] <;> omega))

theorem t_Has (s : Int × Int × Unit) (q : Int) : T (f_set_Set_Has s q) fun _ => True := by
  unfold f_set_Set_Has
  simp only [T_br, T_some, T_none, T_ob, T_sm, lt_t, lt_f, le_t, le_f, eq_t, eq_f, inr_t, inr_f, inq_t, inq_f, not_t, not_f]
  repeat' (first | apply And.intro | intro _ | refine (t_bit _).use fun _ _ => ?_ | split | simp only [T_br, T_some, T_none, T_ob, T_sm, lt_t, lt_f, le_t, le_f, eq_t, eq_f, inr_t, inr_f, inq_t, inq_f, not_t, not_f])
  all_goals (first | exact True.intro | assumption | rfl | omega | (simp only [true_and, and_true, false_and, and_false, or_false, false_or, true_or, or_true] <;> omega))

def mu (a b q : Int) : Nat := if q < 0 then 0 else (18 - (a * (q / 9) + b * (q % 9))).toNat
def Sg (a d : Int) : Prop := (a = 1 ∧ 0 < d) ∨ (a = 0 ∧ d = 0) ∨ (a = -1 ∧ d < 0)
theorem sg_ex (d : Int) : ∃ a, Sg a d := by
  by_cases h : 0 < d
  · exact ⟨1, .inl ⟨rfl, h⟩⟩
  · by_cases h2 : d = 0
    · exact ⟨0, .inr (.inl ⟨rfl, h2⟩)⟩
    · exact ⟨-1, .inr (.inr ⟨rfl, by omega⟩)⟩
theorem mu_pos (a b q : Int) (d : Int × Int × Unit) (ha : Sg a d.1) (hb : Sg b d.2.1) (h : q = -1 ∨ (0 ≤ q ∧ q ≤ 80)) : mu a b q ≤ 34 ∧ (0 ≤ q → 2 ≤ mu a b q) := by
  unfold mu
  rcases ha with ⟨rfl, _⟩ | ⟨rfl, _⟩ | ⟨rfl, _⟩ <;> rcases hb with ⟨rfl, _⟩ | ⟨rfl, _⟩ | ⟨rfl, _⟩ <;> split <;> omega
theorem mu_dec (a b q q' : Int) (d : Int × Int × Unit) (ha : Sg a d.1) (hb : Sg b d.2.1) (hd : ¬ (d.1 = 0 ∧ d.2.1 = 0)) (h0 : 0 ≤ q) (h1 : q ≤ 80) (h : q' = -1 ∨ (0 ≤ q ∧ q ≤ 80 ∧ 0 ≤ q / 9 + d.1 ∧ q / 9 + d.1 ≤ 8 ∧ 0 ≤ q % 9 + d.2.1 ∧ q % 9 + d.2.1 ≤ 8 ∧ q' = 9 * (q / 9 + d.1) + (q % 9 + d.2.1))) : mu a b q' < mu a b q := by
  unfold mu
  rcases h with rfl | ⟨_, _, h3, h4, h5, h6, rfl⟩
  · rw [if_pos (by omega), if_neg (by omega)]
    rcases ha with ⟨rfl, _⟩ | ⟨rfl, _⟩ | ⟨rfl, _⟩ <;> rcases hb with ⟨rfl, _⟩ | ⟨rfl, _⟩ | ⟨rfl, _⟩ <;> omega
  · rw [if_neg (by omega), if_neg (by omega)]
    have e1 : (9 * (q / 9 + d.1) + (q % 9 + d.2.1)) / 9 = q / 9 + d.1 := by omega
    have e2 : (9 * (q / 9 + d.1) + (q % 9 + d.2.1)) % 9 = q % 9 + d.2.1 := by omega
    rw [e1, e2]
    rcases ha with ⟨rfl, _⟩ | ⟨rfl, _⟩ | ⟨rfl, _⟩ <;> rcases hb with ⟨rfl, _⟩ | ⟨rfl, _⟩ | ⟨rfl, _⟩ <;> omega
theorem t_Way_l (n : Nat) (a b : Int) (d t : Int × Int × Unit) (ha : Sg a d.1) (hb : Sg b d.2.1) (hd : ¬ (d.1 = 0 ∧ d.2.1 = 0)) : ∀ (m : Nat) (q : Int) (h5 h6 : Int × Int × Unit), (q = -1 ∨ (0 ≤ q ∧ q ≤ 80)) → mu a b q < m → T (f_ray_Way_l0_i n m q d t h5 h6) fun _ => True
  | 0, q, h5, h6, hI, hm => by omega
  | m + 1, q, h5, h6, hI, hm => by
    have ih := t_Way_l n a b d t ha hb hd m
    show T (f_ray_Way_l0_s n (f_ray_Way_l0_i n m) q d t h5 h6) _
    unfold f_ray_Way_l0_s
    simp only [T_br, T_ob, T_some, le_t, le_f]
    refine ⟨fun h0 => ?_, fun _ => trivial⟩
    refine (t_With _ _).use fun y _ => (t_Has _ _).use fun z _ => ⟨fun _ => trivial, fun _ => ?_⟩
    refine (t_From _ _).use fun y hy => ?_
    have := mu_dec a b q y.1 d ha hb hd h0 (by omega) hy
    exact ih _ _ _ (by omega) (by omega)
theorem t_Way (n : Nat) (hn : 100 ≤ n) (q : Int) (d t : Int × Int × Unit) : T (f_ray_Way n q d t) fun _ => True := by
  unfold f_ray_Way f_ray_Way_l0
  simp only [T_br, T_ob, T_some]
  refine ⟨fun _ => trivial, fun h => ?_⟩
  have hd : ¬ (d.1 = 0 ∧ d.2.1 = 0) := fun ⟨h1, h2⟩ => by
    have e1 : eq d.1 0 = true := (eq_t _ _).mpr h1
    have e2 : eq d.2.1 0 = true := (eq_t _ _).mpr h2
    rw [e1, e2] at h
    exact absurd h (by decide)
  obtain ⟨a, ha⟩ := sg_ex d.1
  obtain ⟨b, hb⟩ := sg_ex d.2.1
  refine (t_From _ _).use fun y hy => ?_
  have hI : y.1 = -1 ∨ (0 ≤ y.1 ∧ y.1 ≤ 80) := by omega
  have := mu_pos a b y.1 d ha hb hI
  refine (t_Way_l n a b d t ha hb hd n _ _ _ hI (by omega)).use fun _ _ => trivial
theorem t_ray_l (n : Nat) (hn : 100 ≤ n) : ∀ (m : Nat) (p : Int) (q : Int) (t : Int) (u : Int) (h1 : Int × Int × Unit) (h2 : Int × Int × Unit) (h3 : Int × Int × Unit) (h4 : List (Int × Int × Unit)), (0 ≤ u ∧ t ≤ h4.length ∧ (h4.length : Int) ≤ 8) → (t - u).toNat < m → T (f_ray_Of_l0_i n m p q t u h1 h2 h3 h4) fun _ => True
  | 0, p, q, t, u, h1, h2, h3, h4, hI, hm => by omega
  | m + 1, p, q, t, u, h1, h2, h3, h4, hI, hm => by
    have ih := t_ray_l n hn m
    show T (f_ray_Of_l0_s n (f_ray_Of_l0_i n m) p q t u h1 h2 h3 h4) _
    unfold f_ray_Of_l0_s
    simp only [T_br, T_some, T_none, T_ob, T_sm, lt_t, lt_f, le_t, le_f, eq_t, eq_f, inr_t, inr_f, inq_t, inq_f, not_t, not_f]
    have := wa_in u 1
    repeat' (first | apply And.intro | intro _ | refine (ih _ _ _ _ _ _ _ _ (by omega) (by omega)).use fun _ _ => ?_ | refine ( t_Side _).use fun _ _ => ?_ | refine ( t_Turn _ _).use fun _ _ => ?_ | refine ( t_Way n hn _ _ _).use fun _ _ => ?_ | split | simp only [T_br, T_some, T_none, T_ob, T_sm, lt_t, lt_f, le_t, le_f, eq_t, eq_f, inr_t, inr_f, inq_t, inq_f, not_t, not_f])
    all_goals (first | exact True.intro | assumption | rfl | omega | (simp only [true_and, and_true, false_and, and_false, or_false, false_or, true_or, or_true] <;> omega))
theorem t_ray_lb (n : Nat)  : ∀ (m : Nat) (p : Int) (q : Int) (t : Int) (u : Int) (h1 : Int × Int × Unit) (h2 : Int × Int × Unit) (h3 : Int × Int × Unit), (t ≤ u) → 0 < m → T (f_ray_Of_l0b_i n m p q t u h1 h2 h3) fun _ => True
  | 0, p, q, t, u, h1, h2, h3, hI, hm => by omega
  | m + 1, p, q, t, u, h1, h2, h3, hI, hm => by
    have ih := t_ray_lb n  m
    show T (f_ray_Of_l0b_s n (f_ray_Of_l0b_i n m) p q t u h1 h2 h3) _
    unfold f_ray_Of_l0b_s
    simp only [T_br, T_some, T_none, T_ob, T_sm, lt_t, lt_f, le_t, le_f, eq_t, eq_f, inr_t, inr_f, inq_t, inq_f, not_t, not_f]
    repeat' (first | apply And.intro | intro _ | split | simp only [T_br, T_some, T_none, T_ob, T_sm, lt_t, lt_f, le_t, le_f, eq_t, eq_f, inr_t, inr_f, inq_t, inq_f, not_t, not_f])
    all_goals (first | exact True.intro | assumption | rfl | omega | (simp only [true_and, and_true, false_and, and_false, or_false, false_or, true_or, or_true] <;> omega))
theorem t_rayOf (n : Nat) (hn : 100 ≤ n) (p q : Int) (t : Int × Int × Unit) : T (f_ray_Of n p q t) fun _ => True := by
  unfold f_ray_Of f_ray_Of_l0 f_ray_Of_l0b
  simp only [T_br, T_some, T_none, T_ob, T_sm, lt_t, lt_f, le_t, le_f, eq_t, eq_f, inr_t, inr_f, inq_t, inq_f, not_t, not_f]
  repeat' (first | apply And.intro | intro _ | refine (t_StepOf n hn _ _).use fun _ _ => ?_ | refine ( t_Kind _).use fun _ _ => ?_ | refine ( t_ray_Dirs _).use fun _ _ => ?_ | refine ( t_ray_l n hn n _ _ _ 0 _ _ _ _ (by omega) (by omega)).use fun _ _ => ?_ | refine ( t_ray_lb n n _ _ 0 0 _ _ _ (by omega) (by omega)).use fun _ _ => ?_ | split | simp only [T_br, T_some, T_none, T_ob, T_sm, lt_t, lt_f, le_t, le_f, eq_t, eq_f, inr_t, inr_f, inq_t, inq_f, not_t, not_f])
  all_goals (first | exact True.intro | assumption | rfl | omega | (simp only [true_and, and_true, false_and, and_false, or_false, false_or, true_or, or_true] <;> omega))

theorem t_On_l (n : Nat) (hn : 100 ≤ n) : ∀ (m : Nat) (q : Int) (s : Int) (k : Int) (h1 : List (List Int × List (Int × Int × Unit) × List (Int × Int × Unit) × Unit)) (h2 : Int × Int × Unit) (h3 : Int × Int × Unit) (h4 : Int × Int × Unit), (0 ≤ k) → (16 - k).toNat < m → T (f_attack_On_l0_i n m q s k h1 h2 h3 h4) fun _ => True
  | 0, q, s, k, h1, h2, h3, h4, hI, hm => by omega
  | m + 1, q, s, k, h1, h2, h3, h4, hI, hm => by
    have ih := t_On_l n hn m
    show T (f_attack_On_l0_s n (f_attack_On_l0_i n m) q s k h1 h2 h3 h4) _
    unfold f_attack_On_l0_s
    simp only [T_br, T_some, T_none, T_ob, T_sm, lt_t, lt_f, le_t, le_f, eq_t, eq_f, inr_t, inr_f, inq_t, inq_f, not_t, not_f]
    have := wa_in k 1
    repeat' (first | apply And.intro | intro _ | refine (ih _ _ _ _ _ _ _ (by omega) (by omega)).use fun _ _ => ?_ | refine ( t_Of _ _).use fun _ _ => ?_ | refine ( t_rayOf n hn _ _ _).use fun _ _ => ?_ | refine ( t_BOf _ _ _).use fun _ _ => ?_ | split | simp only [T_br, T_some, T_none, T_ob, T_sm, lt_t, lt_f, le_t, le_f, eq_t, eq_f, inr_t, inr_f, inq_t, inq_f, not_t, not_f])
    all_goals (first | exact True.intro | assumption | rfl | omega | (simp only [true_and, and_true, false_and, and_false, or_false, false_or, true_or, or_true] <;> omega))
theorem t_On4 (n : Nat) (hn : 100 ≤ n) (q s : Int) (h1 : List (List Int × List (Int × Int × Unit) × List (Int × Int × Unit) × Unit)) (h2 h3 h4 : Int × Int × Unit) : T (f_attack_On_j4 n q s h1 h2 h3 h4) fun _ => True := by
  unfold f_attack_On_j4 f_attack_On_l0
  simp only [T_br, T_some, T_none, T_ob, T_sm, lt_t, lt_f, le_t, le_f, eq_t, eq_f, inr_t, inr_f, inq_t, inq_f, not_t, not_f]
  repeat' (first | apply And.intro | intro _ | refine (t_On_l n hn n _ _ 1 _ _ _ _ (by omega) (by omega)).use fun _ _ => ?_ | split | simp only [T_br, T_some, T_none, T_ob, T_sm, lt_t, lt_f, le_t, le_f, eq_t, eq_f, inr_t, inr_f, inq_t, inq_f, not_t, not_f])
  all_goals (first | exact True.intro | assumption | rfl | omega | (simp only [true_and, and_true, false_and, and_false, or_false, false_or, true_or, or_true] <;> omega))

theorem t_On (n : Nat) (hn : 100 ≤ n) (q s : Int) (t : Int × Int × Unit) (b : List (List Int × List (Int × Int × Unit) × List (Int × Int × Unit) × Unit)) : T (f_attack_On n q s t b) fun _ => True := by
  unfold f_attack_On
  simp only [T_br, T_some, T_none, T_ob, T_sm, lt_t, lt_f, le_t, le_f, eq_t, eq_f, inr_t, inr_f, inq_t, inq_f, not_t, not_f]
  repeat' (first | apply And.intro | intro _ | refine (t_On4 n hn _ _ _ _ _ _).use fun _ _ => ?_ | split | simp only [T_br, T_some, T_none, T_ob, T_sm, lt_t, lt_f, le_t, le_f, eq_t, eq_f, inr_t, inr_f, inq_t, inq_f, not_t, not_f])
  all_goals (first | exact True.intro | assumption | rfl | omega | (simp only [true_and, and_true, false_and, and_false, or_false, false_or, true_or, or_true] <;> omega))

theorem t_InCheck (n : Nat) (hn : 100 ≤ n) (s : Int) (b : List (List Int × List (Int × Int × Unit) × List (Int × Int × Unit) × Unit)) : T (f_attack_InCheck n s b) fun _ => True := by
  unfold f_attack_InCheck f_attack_Checkers
  simp only [T_br, T_some, T_none, T_ob, T_sm, lt_t, lt_f, le_t, le_f, eq_t, eq_f, inr_t, inr_f, inq_t, inq_f, not_t, not_f]
  repeat' (first | apply And.intro | intro _ | refine (t_King _ _).use fun _ _ => ?_ | refine ( t_On n hn _ _ _ _).use fun _ _ => ?_ | split | simp only [T_br, T_some, T_none, T_ob, T_sm, lt_t, lt_f, le_t, le_f, eq_t, eq_f, inr_t, inr_f, inq_t, inq_f, not_t, not_f])
  all_goals (first | exact True.intro | assumption | rfl | omega | (simp only [true_and, and_true, false_and, and_false, or_false, false_or, true_or, or_true] <;> omega))

theorem t_ACheck (n : Nat) (hn : 100 ≤ n) (p : List Int) : T (f_attack_Check n p) fun _ => True := by
  unfold f_attack_Check
  simp only [T_br, T_some, T_none, T_ob, T_sm, lt_t, lt_f, le_t, le_f, eq_t, eq_f, inr_t, inr_f, inq_t, inq_f, not_t, not_f]
  repeat' (first | apply And.intro | intro _ | refine (t_Check n hn _).use fun _ _ => ?_ | refine ( t_New n hn _).use fun _ _ => ?_ | refine ( t_InCheck n hn _ _).use fun _ _ => ?_ | split | simp only [T_br, T_some, T_none, T_ob, T_sm, lt_t, lt_f, le_t, le_f, eq_t, eq_f, inr_t, inr_f, inq_t, inq_f, not_t, not_f])
  all_goals (first | exact True.intro | assumption | rfl | omega | (simp only [true_and, and_true, false_and, and_false, or_false, false_or, true_or, or_true] <;> omega))

end Go.AM.T
end
/- The words: they are read, and no test fails. -/
section
set_option maxRecDepth 100000
set_option linter.unusedVariables false
set_option linter.unusedSimpArgs false
namespace Go.AM.T
open Go Go.AM Go.Proofs
theorem piece_le (sep : ByteArray) : ∀ (k : Nat) (s p : ByteArray), p ∈ Lib.splitB sep 0 k s → p.size ≤ s.size
  | 0, s, p, hp => by
    rw [Lib.splitB_zero] at hp
    obtain rfl := List.mem_singleton.1 hp
    exact Nat.le_refl _
  | k + 1, s, p, hp => by
    unfold Lib.splitB at hp
    split at hp
    · obtain rfl := List.mem_singleton.1 hp
      exact Nat.le_refl _
    · rcases List.mem_cons.1 hp with rfl | hp
      · rw [ByteArray.size_extract]
        omega
      · have := piece_le sep k _ p hp
        rw [ByteArray.size_extract] at this
        omega
/-- Words: not too many, none too long. -/
structure W (k : Nat) (l : List ByteArray) : Prop where
  n : l.length ≤ k
  le : ∀ x ∈ l, x.size ≤ k
theorem W.get {k : Nat} {l : List ByteArray} (h : W k l) (i : Nat) : (l.getD i (⟨#[]⟩ : ByteArray)).size ≤ k := by
  rw [List.getD_eq_getElem?_getD]
  cases e : l[i]? with
  | none => exact Nat.zero_le _
  | some x => exact h.le x (List.mem_of_getElem? e)
theorem W.drop {k : Nat} {l : List ByteArray} (h : W k l) (i : Nat) : W k (l.drop i) :=
  ⟨by have := h.n; rw [List.length_drop]; omega, fun x hx => h.le x (List.mem_of_mem_drop hx)⟩
theorem W.take {k : Nat} {l : List ByteArray} (h : W k l) (i : Nat) : W k (l.take i) :=
  ⟨by have := h.n; rw [List.length_take]; omega, fun x hx => h.le x (List.mem_of_mem_take hx)⟩
theorem lens_le (k : Nat) : ∀ l : List ByteArray, (∀ x ∈ l, x.size ≤ k) → Lib.lens (l.map (·.data.toList)) ≤ k * l.length
  | [], _ => by simp [Lib.lens]
  | x :: l, h => by
    have := lens_le k l fun y hy => h y (List.mem_cons_of_mem _ hy)
    have hx := h x List.mem_cons_self
    have e : x.data.toList.length = x.size := Array.length_toList
    simp only [Lib.lens, List.map_cons, List.sum_cons, List.length_cons] at this ⊢
    rw [e, Nat.mul_add]
    omega
theorem W.join {l : List ByteArray} (h : W 3000 l) : (Lib.join (l.map (·.data.toList)) (⟨#[32]⟩ : ByteArray).data.toList).length ≤ 9003000 := by
  cases l with
  | nil =>
    show (Lib.join [] _).length ≤ _
    rw [Lib.join_nil]
    exact Nat.zero_le _
  | cons x l =>
    have h1 := lens_le 3000 _ h.le
    have h2 := h.n
    have h3 := Lib.join_length x.data.toList (l.map (·.data.toList)) (⟨#[32]⟩ : ByteArray).data.toList
    rw [List.map_cons, h3]
    rw [List.map_cons] at h1
    rw [List.length_cons] at h1 h2
    rw [List.length_map]
    have h4 : (⟨#[32]⟩ : ByteArray).data.toList.length = 1 := rfl
    rw [h4]
    generalize Lib.lens (x.data.toList :: l.map (·.data.toList)) = z at *
    omega
theorem join_t (l : List ByteArray) (h : W 3000 l) : T (l_join (⟨#[32]⟩ : ByteArray) l) fun y => y.1.size ≤ 9003000 := by
  have := h.join
  have := h.n
  unfold l_join
  rw [if_pos (by omega)]
  show ByteArray.size ⟨_⟩ ≤ _
  simp only [ByteArray.size, List.size_toArray]
  assumption
theorem split_t (s : ByteArray) (h : s.size < 4294967281) : T (l_split s (⟨#[32]⟩ : ByteArray)) fun y => y.2.2.length ≤ s.size + 1 ∧ ∀ x ∈ y.2.2, x.size ≤ s.size := by
  have e : (⟨#[32]⟩ : ByteArray).size = 1 := rfl
  unfold l_split
  rw [if_pos (by omega)]
  refine ⟨?_, fun x hx => piece_le _ _ _ _ hx⟩
  have h1 := Lib.splitB_length_le (⟨#[32]⟩ : ByteArray) 0 (Lib.countB s (⟨#[32]⟩ : ByteArray)) s
  have h2 := Lib.countB_le (⟨#[32]⟩ : ByteArray) (by omega) s.size s (Nat.le_refl _)
  show (Lib.splitB _ _ _ _).length ≤ _
  omega
theorem atoi_t (s : ByteArray) (h : s.size ≤ 281474976710656) : T (l_atoi s) fun y => match y with | .inl v => -9223372036854775808 ≤ v.1.1 ∧ v.1.1 ≤ 9223372036854775807 | .inr _ => True := by
  unfold l_atoi
  rw [if_pos h]
  cases e : Lib.atoiAll s.data.toList with
  | ok v => exact Lib.atoiAll_bounds e
  | _ => trivial
theorem itoa_t (a : Int) (h : -9223372036854775808 ≤ a ∧ a ≤ 9223372036854775807) : T (l_itoa a) fun _ => True := by
  unfold l_itoa
  rw [if_pos h]
  trivial
theorem get_le {l : List ByteArray} {k : Nat} (h : ∀ x ∈ l, x.size ≤ k) (i : Nat) : (l.getD i (⟨#[]⟩ : ByteArray)).size ≤ k := by
  rw [List.getD_eq_getElem?_getD]
  cases e : l[i]? with
  | none => exact Nat.zero_le _
  | some x => exact h x (List.mem_of_getElem? e)
theorem app_le {α : Type} {l : List α} {x : α} {k : Nat} (h : l.length + 1 ≤ k) : (l.append [x]).length ≤ k := by
  show (l ++ [x]).length ≤ k
  rw [List.length_append, List.length_singleton]
  exact h
theorem app_eq {α : Type} {l : List α} {x : α} {k : Int} (h : (l.length : Int) + 1 = k) : ((l.append [x]).length : Int) = k := by
  show ((l ++ [x]).length : Int) = k
  rw [List.length_append, List.length_singleton]
  omega
theorem t_s15 (n : Nat) (hn : 100 ≤ n) (a : Int) (h1 h2 : List Int) : T (f_sfen_Parse_j15 n a h1 h2) fun _ => True := by
  unfold f_sfen_Parse_j15
  simp only [T_br, T_some, T_none, T_ob, T_sm, lt_t, lt_f, le_t, le_f, eq_t, eq_f, inr_t, inr_f, inq_t, inq_f, not_t, not_f]
  repeat' (first | apply And.intro | intro _ | refine (t_ACheck n hn _).use fun _ _ => ?_ | split | simp only [T_br, T_some, T_none, T_ob, T_sm, lt_t, lt_f, le_t, le_f, eq_t, eq_f, inr_t, inr_f, inq_t, inq_f, not_t, not_f])
  all_goals (first | exact True.intro | assumption | rfl | omega | (simp only [true_and, and_true, false_and, and_false, or_false, false_or, true_or, or_true] <;> omega))

theorem t_s13 (n : Nat) (hn : 100 ≤ n) (a : Int) (h1 : List Int) (h2 : List ByteArray) (h3 : List Int) (hl : (h2.length : Int) = 4) : T (f_sfen_Parse_j13 n a h1 h2 h3) fun _ => True := by
  unfold f_sfen_Parse_j13
  simp only [T_br, T_some, T_none, T_ob, T_sm, lt_t, lt_f, le_t, le_f, eq_t, eq_f, inr_t, inr_f, inq_t, inq_f, not_t, not_f]
  repeat' (first | apply And.intro | intro _ | refine (t_s15 n hn _ _ _).use fun _ _ => ?_ | split | simp only [T_br, T_some, T_none, T_ob, T_sm, lt_t, lt_f, le_t, le_f, eq_t, eq_f, inr_t, inr_f, inq_t, inq_f, not_t, not_f])
  all_goals (first | exact True.intro | assumption | rfl | omega | (simp only [true_and, and_true, false_and, and_false, or_false, false_or, true_or, or_true] <;> omega))

theorem t_sfen (n : Nat) (hn : 100000000 ≤ n) (s : ByteArray) : T (f_sfen_Parse n s) fun _ => True := by
  unfold f_sfen_Parse
  have hl := len_eq s
  simp only [T_br, T_ob, T_some, lt_t, lt_f]
  refine ⟨fun _ => trivial, fun h0 => ?_⟩
  refine (split_t s (by omega)).use fun y ⟨hy, hz⟩ => ?_
  have hg := get_le hz
  have g0 := hg 0
  have g2 := hg 2
  have g3 := hg 3
  simp only [T_br, T_some, T_none, T_ob, T_sm, lt_t, lt_f, le_t, le_f, eq_t, eq_f, inr_t, inr_f, inq_t, inq_f, not_t, not_f]
  repeat' (first | apply And.intro | intro _ | refine (t_ranks n _ (by omega) (by omega)).use fun _ _ => ?_ | refine ( t_hands n _ (by omega) (by omega)).use fun _ _ => ?_ | refine ( atoi_t _ (by omega)).use fun _ _ => ?_ | refine ( itoa_t _ (by assumption)).use fun _ _ => ?_ | refine ( t_s13 n (by omega) _ _ _ _ (by omega)).use fun _ _ => ?_ | split | simp only [T_br, T_some, T_none, T_ob, T_sm, lt_t, lt_f, le_t, le_f, eq_t, eq_f, inr_t, inr_f, inq_t, inq_f, not_t, not_f])
  all_goals (first | exact True.intro | assumption | rfl | omega | (simp only [true_and, and_true, false_and, and_false, or_false, false_or, true_or, or_true] <;> omega))

theorem t_msq (a b : Int) : T (f_move_square a b) fun _ => True := by
  unfold f_move_square
  simp only [T_br, T_some, T_none, T_ob, T_sm, lt_t, lt_f, le_t, le_f, eq_t, eq_f, inr_t, inr_f, inq_t, inq_f, not_t, not_f]
  repeat' (first | apply And.intro | intro _ | refine (t_Square _ _).use fun _ _ => ?_ | split | simp only [T_br, T_some, T_none, T_ob, T_sm, lt_t, lt_f, le_t, le_f, eq_t, eq_f, inr_t, inr_f, inq_t, inq_f, not_t, not_f])
  all_goals (first | exact True.intro | assumption | rfl | omega | (simp only [true_and, and_true, false_and, and_false, or_false, false_or, true_or, or_true] <;> omega))

theorem t_mv_l (n : Nat) (s : ByteArray) : ∀ (m : Nat) (h1 : Int × Int × Int × Bool × Unit) (h2 : List Int) (p : Nat), (h2.length ≤ 6) → s.size - p < m → T (f_move_Parse_l0_i n m h1 h2 (s, p)) fun y => y.2.2.length ≤ 6
  | 0, h1, h2, p, hI, hm => by omega
  | m + 1, h1, h2, p, hI, hm => by
    have ih := t_mv_l n s m
    have hw := wid_gt s p
    have hl := len_eq s
    show T (f_move_Parse_l0_s n (f_move_Parse_l0_i n m) h1 h2 (s, p)) _
    unfold f_move_Parse_l0_s
    simp only [T_br, T_some, T_none, T_ob, T_sm, lt_t, lt_f, le_t, le_f, eq_t, eq_f, inr_t, inr_f, inq_t, inq_f, not_t, not_f, room_t, room_f]
    repeat' (first | apply And.intro | intro _ | refine (ih _ _ _ (app_le (by omega)) (by omega)).use fun _ _ => ?_ | split | simp only [T_br, T_some, T_none, T_ob, T_sm, lt_t, lt_f, le_t, le_f, eq_t, eq_f, inr_t, inr_f, inq_t, inq_f, not_t, not_f, room_t, room_f])
    all_goals (first | omega | exact True.intro | assumption | rfl | omega | (simp only [true_and, and_true, false_and, and_false, or_false, false_or, true_or, or_true] <;> omega))
theorem t_mv21 (n : Nat) (h1 h2 : Int × Int × Int × Bool × Unit) : T (f_move_Parse_j21 n h1 h2) fun _ => True := trivial
theorem t_mv (n : Nat) (s : ByteArray) (hn : 100 ≤ n) (hs : s.size < n) : T (f_move_Parse n s) fun _ => True := by
  unfold f_move_Parse f_move_Parse_l0
  simp only [T_br, T_some, T_none, T_ob, T_sm, lt_t, lt_f, le_t, le_f, eq_t, eq_f, inr_t, inr_f, inq_t, inq_f, not_t, not_f]
  repeat' (first | apply And.intro | intro _ | refine (t_mv_l n s n _ _ _ (Nat.zero_le _) (by omega)).use fun _ _ => ?_ | refine ( t_PP n hn _ _).use fun _ _ => ?_ | refine ( t_msq _ _).use fun _ _ => ?_ | refine ( t_Side _).use fun _ _ => ?_ | refine ( t_mv21 _ _ _).use fun _ _ => ?_ | split | simp only [T_br, T_some, T_none, T_ob, T_sm, lt_t, lt_f, le_t, le_f, eq_t, eq_f, inr_t, inr_f, inq_t, inq_f, not_t, not_f])
  all_goals (first | exact True.intro | assumption | rfl | omega | (simp only [true_and, and_true, false_and, and_false, or_false, false_or, true_or, or_true] <;> omega))

theorem t_ln_l (n : Nat) (hn : 100 ≤ n) : ∀ (m : Nat) (t : Int) (u : Int) (h1 : List (Int × Int × Int × Bool × Unit)) (h2 : List ByteArray), (0 ≤ u ∧ t ≤ h2.length ∧ (h1.length : Int) = u ∧ t ≤ 9003001 ∧ u ≤ 9003001 ∧ ∀ x ∈ h2, x.size < n) → (t - u).toNat < m → T (f_line_Parse_l0_i n m t u h1 h2) fun y => match y with | .inl _ => True | .inr v => v.2.length ≤ 9003001
  | 0, t, u, h1, h2, hI, hm => by omega
  | m + 1, t, u, h1, h2, hI, hm => by
    have ih := t_ln_l n hn m
    have hgt : ∀ i, (h2.getD i (⟨#[]⟩ : ByteArray)).size < n := fun i => by have := get_le (k := n - 1) (fun x hx => (by have := hI.2.2.2.2.2 x hx; omega)) i; omega
    show T (f_line_Parse_l0_s n (f_line_Parse_l0_i n m) t u h1 h2) _
    unfold f_line_Parse_l0_s
    simp only [T_br, T_some, T_none, T_ob, T_sm, lt_t, lt_f, le_t, le_f, eq_t, eq_f, inr_t, inr_f, inq_t, inq_f, not_t, not_f, room_t, room_f]
    have := wa_in u 1
    repeat' (first | apply And.intro | intro _ | refine (ih _ _ _ _ ⟨by omega, by omega, app_eq (by omega), by omega, by omega, hI.2.2.2.2.2⟩ (by omega)).use fun _ _ => ?_ | refine ( t_mv n _ hn (hgt _)).use fun _ _ => ?_ | split | simp only [T_br, T_some, T_none, T_ob, T_sm, lt_t, lt_f, le_t, le_f, eq_t, eq_f, inr_t, inr_f, inq_t, inq_f, not_t, not_f, room_t, room_f])
    all_goals (first | exact True.intro | assumption | rfl | omega | (simp only [true_and, and_true, false_and, and_false, or_false, false_or, true_or, or_true] <;> omega))
theorem t_ln (n : Nat) (hn : 100000000 ≤ n) (s : ByteArray) (hs : s.size ≤ 9003000) : T (f_line_Parse n s) fun y => match y with | .inl _ => True | .inr v => v.2.2.length ≤ 9003001 := by
  unfold f_line_Parse f_line_Parse_l0
  simp only [T_br, T_ob, T_some, T_sm]
  refine ⟨fun _ => trivial, fun h0 => ?_⟩
  refine (split_t s (by omega)).use fun y ⟨hy, hz⟩ => ?_
  refine (t_ln_l n (by omega) n _ 0 [] _ ⟨by omega, by omega, rfl, by omega, by omega, fun x hx => by have := hz x hx; omega⟩ (by omega)).use fun z _ => ?_
  cases z with
  | inl v => trivial
  | inr v => assumption
theorem t_p10 (n : Nat) (hn : 100000000 ≤ n) (w : Nat × Nat) (h16 : List ByteArray) (h17 : List Int × Unit × Unit) (hW : W 3000 h16) : T (f_token_position_j10 n w h16 h17) fun y => match y with | .inr (.inr v) => v.2.2.length ≤ 9003001 | _ => True := by
  unfold f_token_position_j10
  simp only [T_br, T_some, T_none, T_ob, T_sm, lt_t, lt_f, le_t, le_f, eq_t, eq_f, inr_t, inr_f, inq_t, inq_f, not_t, not_f]
  repeat' (first | apply And.intro | intro _ | refine (join_t _ ((hW.drop _).take _)).use fun _ _ => ?_ | refine ( t_ln n hn _ (by assumption)).use fun _ _ => ?_ | split | simp only [T_br, T_some, T_none, T_ob, T_sm, lt_t, lt_f, le_t, le_f, eq_t, eq_f, inr_t, inr_f, inq_t, inq_f, not_t, not_f])
  all_goals (first | exact True.intro | assumption | rfl | omega | (simp only [true_and, and_true, false_and, and_false, or_false, false_or, true_or, or_true] <;> omega))

theorem t_pos (n : Nat) (hn : 100000000 ≤ n) (hS : T (f_board_Start n) fun _ => True) (b : List ByteArray) (hW : W 3000 b) : T (f_token_position n b) fun y => match y with | .inr (.inr v) => v.2.2.length ≤ 9003001 | _ => True := by
  unfold f_token_position
  simp only [T_br, T_some, T_none, T_ob, T_sm, lt_t, lt_f, le_t, le_f, eq_t, eq_f, inr_t, inr_f, inq_t, inq_f, not_t, not_f]
  repeat' (first | apply And.intro | intro _ | refine (hS).use fun _ _ => ?_ | refine ( join_t _ ((hW.drop _).take _)).use fun _ _ => ?_ | refine ( t_sfen n hn _).use fun _ _ => ?_ | refine ( t_p10 n hn _ _ _ hW).use fun _ _ => ?_ | split | simp only [T_br, T_some, T_none, T_ob, T_sm, lt_t, lt_f, le_t, le_f, eq_t, eq_f, inr_t, inr_f, inq_t, inq_f, not_t, not_f])
  all_goals (first | (simp only [Bool.and_true, inq_t, inq_f] at *; omega) | exact True.intro | assumption | rfl | omega | (simp only [true_and, and_true, false_and, and_false, or_false, false_or, true_or, or_true] <;> omega))

theorem t_num_l (n : Nat) (s : ByteArray) : ∀ (m : Nat) (s1 : ByteArray) (a : Int) (p : Nat), s.size - p < m → T (f_digit_Number_l0_i n m s1 a (s, p)) fun _ => True
  | 0, s1, a, p, hm => by omega
  | m + 1, s1, a, p, hm => by
    have ih := t_num_l n s m
    have hw := wid_gt s p
    have hl := len_eq s
    show T (f_digit_Number_l0_s n (f_digit_Number_l0_i n m) s1 a (s, p)) _
    unfold f_digit_Number_l0_s
    simp only [T_br, T_some, T_none, T_ob, T_sm, lt_t, lt_f, le_t, le_f, eq_t, eq_f, inr_t, inr_f, inq_t, inq_f, not_t, not_f]
    repeat' (first | apply And.intro | intro _ | refine (ih _ _ _ (by omega)).use fun _ _ => ?_ | split | simp only [T_br, T_some, T_none, T_ob, T_sm, lt_t, lt_f, le_t, le_f, eq_t, eq_f, inr_t, inr_f, inq_t, inq_f, not_t, not_f])
    all_goals (first | exact True.intro | assumption | rfl | omega | (simp only [true_and, and_true, false_and, and_false, or_false, false_or, true_or, or_true] <;> omega))
theorem t_num (n : Nat) (s : ByteArray) (hs : s.size < n) : T (f_digit_Number n s) fun _ => True := by
  unfold f_digit_Number f_digit_Number_l0
  simp only [T_br, T_some, T_none, T_ob, T_sm, lt_t, lt_f, le_t, le_f, eq_t, eq_f, inr_t, inr_f, inq_t, inq_f, not_t, not_f]
  repeat' (first | apply And.intro | intro _ | refine (t_num_l n s n _ _ _ (by omega)).use fun _ _ => ?_ | split | simp only [T_br, T_some, T_none, T_ob, T_sm, lt_t, lt_f, le_t, le_f, eq_t, eq_f, inr_t, inr_f, inq_t, inq_f, not_t, not_f])
  all_goals (first | exact True.intro | assumption | rfl | omega | (simp only [true_and, and_true, false_and, and_false, or_false, false_or, true_or, or_true] <;> omega))

theorem t_se_l (n : Nat) (hn : 10000 ≤ n) : ∀ (m : Nat) (a : Nat) (b : Nat) (h28 : List ByteArray) (h29 : Int × Int × Unit), (W 3000 h28) → b < m → T (f_token_search_l1_i n m (a, b) h28 h29) fun _ => True
  | 0, a, b, h28, h29, hI, hm => by omega
  | m + 1, a, b, h28, h29, hI, hm => by
    have ih := t_se_l n hn m
    show T (f_token_search_l1_s n (f_token_search_l1_i n m) (a, b) h28 h29) _
    unfold f_token_search_l1_s
    simp only [T_br, T_some, T_none, T_ob, T_sm, lt_t, lt_f, le_t, le_f, eq_t, eq_f, inr_t, inr_f, inq_t, inq_f, not_t, not_f]
    repeat' (first | apply And.intro | intro _ | refine (ih _ _ _ _ hI (by omega)).use fun _ _ => ?_ | refine ( t_num n _ (Nat.lt_of_le_of_lt (hI.get _) (by omega))).use fun _ _ => ?_ | split | simp only [T_br, T_some, T_none, T_ob, T_sm, lt_t, lt_f, le_t, le_f, eq_t, eq_f, inr_t, inr_f, inq_t, inq_f, not_t, not_f])
    all_goals (first | exact True.intro | assumption | rfl | omega | (simp only [true_and, and_true, false_and, and_false, or_false, false_or, true_or, or_true] <;> omega))
theorem t_se7 (n : Nat) (h : List ByteArray) : T (f_token_search_j7 n h) fun _ => True := trivial
theorem t_se8 (n : Nat) (hn : 10000 ≤ n) (h : List ByteArray) (hW : W 3000 h) : T (f_token_search_j8 n h) fun _ => True := by
  unfold f_token_search_j8 f_token_search_l1
  have := hW.n
  simp only [T_br, T_some, T_none, T_ob, T_sm, lt_t, lt_f, le_t, le_f, eq_t, eq_f, inr_t, inr_f, inq_t, inq_f, not_t, not_f]
  repeat' (first | apply And.intro | intro _ | refine (t_se_l n hn n _ _ _ _ hW (by omega)).use fun _ _ => ?_ | split | simp only [T_br, T_some, T_none, T_ob, T_sm, lt_t, lt_f, le_t, le_f, eq_t, eq_f, inr_t, inr_f, inq_t, inq_f, not_t, not_f])
  all_goals (first | exact True.intro | assumption | rfl | omega | (simp only [true_and, and_true, false_and, and_false, or_false, false_or, true_or, or_true] <;> omega))

theorem t_se (n : Nat) (hn : 10000 ≤ n) (b : List ByteArray) (hW : W 3000 b) : T (f_token_search n b) fun _ => True := by
  unfold f_token_search
  simp only [T_br, T_some, T_none, T_ob, T_sm, lt_t, lt_f, le_t, le_f, eq_t, eq_f, inr_t, inr_f, inq_t, inq_f, not_t, not_f]
  repeat' (first | apply And.intro | intro _ | refine (t_se7 _ _).use fun _ _ => ?_ | refine ( t_se8 n hn _ hW).use fun _ _ => ?_ | refine ( t_num n _ (Nat.lt_of_le_of_lt (hW.get _) (by omega))).use fun _ _ => ?_ | split | simp only [T_br, T_some, T_none, T_ob, T_sm, lt_t, lt_f, le_t, le_f, eq_t, eq_f, inr_t, inr_f, inq_t, inq_f, not_t, not_f])
  all_goals (first | exact True.intro | assumption | rfl | omega | (simp only [true_and, and_true, false_and, and_false, or_false, false_or, true_or, or_true] <;> omega))

theorem t_op5 (n : Nat) (h : List ByteArray) : T (f_token_option_j5 n h) fun _ => True := trivial
theorem t_op (n : Nat) (b : List ByteArray) : T (f_token_option n b) fun _ => True := by
  unfold f_token_option
  simp only [T_br, T_some, T_none, T_ob, T_sm, lt_t, lt_f, le_t, le_f, eq_t, eq_f, inr_t, inr_f, inq_t, inq_f, not_t, not_f]
  repeat' (first | apply And.intro | intro _ | refine (t_op5 _ _).use fun _ _ => ?_ | split | simp only [T_br, T_some, T_none, T_ob, T_sm, lt_t, lt_f, le_t, le_f, eq_t, eq_f, inr_t, inr_f, inq_t, inq_f, not_t, not_f])
  all_goals (first | exact True.intro | assumption | rfl | omega | (simp only [true_and, and_true, false_and, and_false, or_false, false_or, true_or, or_true] <;> omega))

theorem spans_len (p : Nat → Bool) (s : ByteArray) : ∀ (f pos : Nat) (st : Option Nat) (acc : List (Nat × Nat)), (Lib.spansFromP p s f pos st acc).1.length ≤ acc.length + f
  | 0, _, _, acc => by simp [Lib.spansFromP]
  | f + 1, pos, st, acc => by
    unfold Lib.spansFromP
    split
    · split <;> cases st
      · have := spans_len p s f (pos + (Utf8.decode s pos).2) none acc
        simp only; omega
      · rename_i a
        have := spans_len p s f (pos + (Utf8.decode s pos).2) none (acc ++ [(a, pos)])
        rw [List.length_append, List.length_singleton] at this
        simp only; omega
      · have := spans_len p s f (pos + (Utf8.decode s pos).2) (some pos) acc
        simp only; omega
      · rename_i a
        have := spans_len p s f (pos + (Utf8.decode s pos).2) (some a) acc
        simp only; omega
    · show acc.length ≤ _
      omega
theorem words_W (s : ByteArray) (h : s.size ≤ 2000) : W 3000 (Lib.goFieldsP blk s) := by
  refine ⟨?_, fun x hx => ?_⟩
  · have h1 := spans_len blk s s.size 0 none []
    unfold Lib.goFieldsP Lib.spansOfP
    rw [List.length_map]
    have h2 : ∀ q : List (Nat × Nat) × Option Nat, (Lib.closeSpans s q).length ≤ q.1.length + 1 := fun q => by
      unfold Lib.closeSpans
      obtain ⟨a, b⟩ := q
      cases b <;> simp <;> (try omega)
    have := h2 (Lib.spansFromP blk s s.size 0 none [])
    rw [List.length_nil] at h1
    omega
  · unfold Lib.goFieldsP at hx
    obtain ⟨y, _, rfl⟩ := List.mem_map.1 hx
    rw [ByteArray.size_extract]
    omega
theorem t_words (s : ByteArray) (h : s.size ≤ 2000) : T (f_token_words s) fun y => W 3000 y.2.2 := by
  unfold f_token_words l_fields
  simp only [T_ob]
  rw [if_pos (by omega)]
  exact words_W s h
/-- The words that stand alone. -/
def PW (w : ByteArray) : Prop := seq w (⟨#[117, 115, 105]⟩ : ByteArray) = true ∨ seq w (⟨#[105, 115, 114, 101, 97, 100, 121]⟩ : ByteArray) = true ∨ seq w (⟨#[117, 115, 105, 110, 101, 119, 103, 97, 109, 101]⟩ : ByteArray) = true ∨ seq w (⟨#[115, 116, 111, 112]⟩ : ByteArray) = true ∨ seq w (⟨#[113, 117, 105, 116]⟩ : ByteArray) = true
theorem t_tp21 (n : Nat) (u : Unit) : T (f_token_Parse_j21 n u) fun _ => True := trivial
theorem t_tp (n : Nat) (hn : 100000000 ≤ n) (hS : T (f_board_Start n) fun _ => True) (s : ByteArray) (h : s.size ≤ 2000) : T (f_token_Parse n s) fun y => match y with | .inr (.inl v) => PW v.1.1.1 | .inr (.inr (.inr (.inr (.inl v)))) => v.2.2.length ≤ 9003001 | _ => True := by
  unfold f_token_Parse
  simp only [T_br, T_some, T_none, T_ob, T_sm, lt_t, lt_f, le_t, le_f, eq_t, eq_f, inr_t, inr_f, inq_t, inq_f, not_t, not_f]
  repeat' (first | apply And.intro | intro _ | refine (t_words s h).use fun _ _ => ?_ | refine ( t_op n _).use fun _ _ => ?_ | refine ( t_se n (by omega) _ (W.take (W.drop (by assumption) _) _)).use fun _ _ => ?_ | refine ( t_pos n hn hS _ (W.take (W.drop (by assumption) _) _)).use fun _ _ => ?_ | refine ( t_tp21 _ _).use fun _ _ => ?_ | split | simp only [T_br, T_some, T_none, T_ob, T_sm, lt_t, lt_f, le_t, le_f, eq_t, eq_f, inr_t, inr_f, inq_t, inq_f, not_t, not_f])
  all_goals (first | (simp only [PW, *, true_or, or_true]) | exact True.intro | assumption | rfl | omega | (simp only [true_and, and_true, false_and, and_false, or_false, false_or, true_or, or_true] <;> omega))

theorem seq_e {a b : ByteArray} (h : seq a b = true) : a = b := by
  unfold seq at h
  have h := eq_of_beq h
  rw [ByteArray.toList_eq, ByteArray.toList_eq] at h
  exact ByteArray.ext (Array.ext' h)

end Go.AM.T
end
/- Words: the runs of bytes between blanks. -/
section
set_option maxRecDepth 100000
set_option linter.unusedVariables false
set_option linter.unusedSimpArgs false
namespace Go.AM.T
open Go Go.AM Go.Proofs
def bb (b : UInt8) : Bool := b == 32 || b == 9 || b == 13
def wd : List UInt8 → List UInt8 → List (List UInt8)
  | [], c => if c = [] then [] else [c]
  | b :: l, c => if bb b = true then (if c = [] then wd l [] else c :: wd l []) else wd l (c ++ [b])
theorem wd_skip : ∀ (x t c : List UInt8), (∀ b ∈ x, bb b = false) → wd (x ++ t) c = wd t (c ++ x)
  | [], t, c, _ => by rw [List.nil_append, List.append_nil]
  | b :: x, t, c, h => by
    have hb := h b List.mem_cons_self
    show wd (b :: (x ++ t)) c = _
    rw [wd, if_neg (by rw [hb]; decide), wd_skip x t (c ++ [b]) fun y hy => h y (List.mem_cons_of_mem _ hy), List.append_assoc]
    rfl
theorem wd_blanks : ∀ (x t : List UInt8), (∀ b ∈ x, bb b = true) → wd (x ++ t) [] = wd t []
  | [], t, _ => rfl
  | b :: x, t, h => by
    have hb := h b List.mem_cons_self
    show wd (b :: (x ++ t)) [] = _
    rw [wd, if_pos hb, if_pos rfl]
    exact wd_blanks x t fun y hy => h y (List.mem_cons_of_mem _ hy)
theorem wd_tail : ∀ (l c x : List UInt8), (∀ b ∈ x, bb b = true) → wd (l ++ x) c = wd l c
  | [], c, [], h => rfl
  | [], c, b :: x, h => by
    have hb := h b List.mem_cons_self
    have h0 : wd x [] = [] := by
      have := wd_blanks x [] fun y hy => h y (List.mem_cons_of_mem _ hy)
      rw [List.append_nil] at this
      exact this
    show wd (b :: x) c = _
    show (if bb b = true then _ else _) = _
    rw [if_pos hb, h0]
    rfl
  | a :: l, c, x, h => by
    show wd (a :: (l ++ x)) c = wd (a :: l) c
    rw [wd, wd, wd_tail l [] x h, wd_tail l (c ++ [a]) x h]
def widen (m : List UInt8) : List UInt8 → List UInt8
  | [] => []
  | b :: l => if b = 32 then b :: (m ++ widen m l) else b :: widen m l
theorem wd_widen (m : List UInt8) (hm : ∀ b ∈ m, bb b = true) : ∀ l c : List UInt8, wd (widen m l) c = wd l c
  | [], c => rfl
  | b :: l, c => by
    rw [widen]
    by_cases h : b = 32
    · subst h
      have h32 : bb 32 = true := by decide
      rw [if_pos rfl, wd, wd, if_pos h32, if_pos h32, wd_blanks m _ hm, wd_widen m hm l []]
    · rw [if_neg h, wd, wd, wd_widen m hm l [], wd_widen m hm l (c ++ [b])]
theorem widen_app (m : List UInt8) : ∀ l k : List UInt8, widen m (l ++ k) = widen m l ++ widen m k
  | [], k => rfl
  | b :: l, k => by
    show widen m (b :: (l ++ k)) = _
    rw [widen, widen, widen_app m l k]
    split
    · rw [List.cons_append, List.append_assoc]
    · rfl
/-! ### what the library's words are -/
theorem blk_of (x : Nat) : blk x = (x == 32 || x == 9 || x == 13) := rfl
theorem bb_nat (b : UInt8) : bb b = blk b.toNat := by
  unfold bb blk
  have h : ∀ k : UInt8, (b == k) = (b.toNat == k.toNat) := fun k => by
    by_cases e : b = k
    · subst e; rw [beq_self_eq_true, beq_self_eq_true]
    · have : b.toNat ≠ k.toNat := fun h => e (UInt8.toNat_inj.1 h)
      rw [beq_eq_false_iff_ne.2 e, beq_eq_false_iff_ne.2 this]
  rw [h 32, h 9, h 13]
  rfl
theorem dec_step (s : ByteArray) (pos : Nat) (h : pos < s.size) : pos + (Utf8.decode s pos).2 ≤ s.size ∧ 1 ≤ (Utf8.decode s pos).2 ∧
    (blk (Utf8.decode s pos).1 = true → (Utf8.decode s pos).2 = 1 ∧ bb (s.data.toList.getD pos 0) = true) ∧
    (blk (Utf8.decode s pos).1 = false → ∀ j, j < (Utf8.decode s pos).2 → bb (s.data.toList.getD (pos + j) 0) = false) := by
  have hl : s.data.toList.length = s.size := Array.length_toList
  rw [Lib.decode_N, hl]
  generalize e0 : s.data.toList.getD pos 0 = b0
  generalize e1 : s.data.toList.getD (pos + 1) 0 = b1
  generalize e2 : s.data.toList.getD (pos + 2) 0 = b2
  generalize e3 : s.data.toList.getD (pos + 3) 0 = b3
  have hc := Lib.decodeN_conts (s.size - pos) b0.toNat b1.toNat b2.toNat b3.toNat
  have hg := Lib.decodeN_ge1 (s.size - pos) b0.toNat b1.toNat b2.toNat b3.toNat
  by_cases hb : b0.toNat < 128
  · rw [Lib.decodeN_ascii _ _ _ _ _ hb] at hc hg ⊢
    refine ⟨by omega, by omega, fun h1 => ⟨rfl, by rw [bb_nat]; exact h1⟩, fun h1 j hj => ?_⟩
    obtain rfl : j = 0 := by omega
    rw [Nat.add_zero, e0, bb_nat]
    exact h1
  · have hr : 128 ≤ (Lib.decodeN (s.size - pos) b0.toNat b1.toNat b2.toNat b3.toNat).1 := by
      unfold Lib.decodeN
      repeat' split
      all_goals (simp only; omega)
    generalize Lib.decodeN (s.size - pos) b0.toNat b1.toNat b2.toNat b3.toNat = q at *
    obtain ⟨r, w⟩ := q
    simp only at hc hg hr ⊢
    have big : ∀ b : UInt8, 128 ≤ b.toNat → bb b = false := fun b hb => by
      rw [bb_nat]
      unfold blk
      have : ¬ b.toNat = 32 ∧ ¬ b.toNat = 9 ∧ ¬ b.toNat = 13 := by omega
      simp [this.1, this.2.1, this.2.2]
    refine ⟨by omega, by omega, fun h1 => ?_, fun h1 j hj => ?_⟩
    · exfalso
      unfold blk at h1
      have : ¬ r = 32 ∧ ¬ r = 9 ∧ ¬ r = 13 := by omega
      simp [this.1, this.2.1, this.2.2] at h1
    · have : j = 0 ∨ j = 1 ∨ j = 2 ∨ j = 3 := by omega
      rcases this with rfl | rfl | rfl | rfl
      · rw [Nat.add_zero, e0]; exact big _ (by omega)
      · rw [e1]; exact big _ (by omega)
      · rw [e2]; exact big _ (by omega)
      · rw [e3]; exact big _ (by omega)
theorem ext_list (s : ByteArray) (a b : Nat) : (s.extract a b).data.toList = (s.data.toList.drop a).take (b - a) := by
  rw [ByteArray.data_extract, Array.toList_extract]
def cur (l : List UInt8) (pos : Nat) : Option Nat → List UInt8
  | none => []
  | some a => (l.drop a).take (pos - a)
theorem fields_step (s : ByteArray) : ∀ (f pos : Nat) (st : Option Nat) (acc : List (Nat × Nat)), s.size - pos ≤ f → pos ≤ s.size → (∀ a, st = some a → a < pos) →
    (Lib.closeSpans s (Lib.spansFromP blk s f pos st acc)).map (fun x => (s.extract x.1 x.2).data.toList) = acc.map (fun x => (s.extract x.1 x.2).data.toList) ++ wd (s.data.toList.drop pos) (cur s.data.toList pos st) := by
  have hl : s.data.toList.length = s.size := Array.length_toList
  have fin : ∀ (pos : Nat) (st : Option Nat) (acc : List (Nat × Nat)), pos = s.size → (∀ a, st = some a → a < pos) →
      (Lib.closeSpans s (acc, st)).map (fun x => (s.extract x.1 x.2).data.toList) = acc.map (fun x => (s.extract x.1 x.2).data.toList) ++ wd (s.data.toList.drop pos) (cur s.data.toList pos st) := by
    intro pos st acc hp ha
    subst hp
    rw [List.drop_of_length_le (by omega)]
    cases st with
    | none => simp [Lib.closeSpans, wd, cur]
    | some a =>
      have h1 := ha a rfl
      have h2 : (s.data.toList.drop a).take (s.size - a) ≠ [] := by
        intro h
        have := congrArg List.length h
        rw [List.length_take, List.length_drop, List.length_nil] at this
        omega
      show _ = _ ++ wd [] ((s.data.toList.drop a).take (s.size - a))
      rw [wd, if_neg h2]
      simp only [Lib.closeSpans, List.map_append, List.map_cons, List.map_nil, ext_list]
  intro f
  induction f with
  | zero => intro pos st acc hf hp ha; exact fin pos st acc (by omega) ha
  | succ f ih =>
    intro pos st acc hf hp ha
    unfold Lib.spansFromP
    by_cases hlt : pos < s.size
    case neg => rw [if_neg hlt]; exact fin pos st acc (by omega) ha
    rw [if_pos hlt]
    obtain ⟨d1, d2, d3, d4⟩ := dec_step s pos hlt
    generalize Utf8.decode s pos = q at *
    obtain ⟨r, w⟩ := q
    simp only at d1 d2 d3 d4 ⊢
    have hdrop : s.data.toList.drop pos = (s.data.toList.drop pos).take w ++ s.data.toList.drop (pos + w) := by
      rw [← List.drop_drop, List.take_append_drop]
    cases hb : blk r with
    | true =>
      rw [if_pos rfl]
      obtain ⟨hw, hbb⟩ := d3 hb
      subst hw
      have hcons : s.data.toList.drop pos = s.data.toList.getD pos 0 :: s.data.toList.drop (pos + 1) := by
        rw [List.drop_eq_getElem_cons (by omega), List.getD_eq_getElem?_getD, List.getElem?_eq_getElem (by omega)]
        rfl
      cases st with
      | none =>
        simp only
        rw [ih _ _ _ (by omega) (by omega) (fun a h => by cases h), hcons]
        show _ = _ ++ wd (_ :: _) []
        rw [wd, if_pos hbb, if_pos rfl]
        rfl
      | some a =>
        simp only
        have h1 := ha a rfl
        have h2 : (s.data.toList.drop a).take (pos - a) ≠ [] := by
          intro h
          have := congrArg List.length h
          rw [List.length_take, List.length_drop, List.length_nil] at this
          omega
        rw [ih _ _ _ (by omega) (by omega) (fun a h => by cases h), hcons]
        show _ = _ ++ wd (_ :: _) ((s.data.toList.drop a).take (pos - a))
        rw [wd, if_pos hbb, if_neg h2, List.map_append, List.append_assoc, List.map_cons, List.map_nil, ext_list]
        rfl
    | false =>
      rw [if_neg (by decide)]
      have hall : ∀ b ∈ (s.data.toList.drop pos).take w, bb b = false := by
        intro b hb'
        obtain ⟨j, hj, rfl⟩ := List.mem_iff_getElem.1 hb'
        rw [List.length_take, List.length_drop] at hj
        have := d4 hb j (by omega)
        rw [List.getElem_take, List.getElem_drop]
        rwa [List.getD_eq_getElem?_getD, List.getElem?_eq_getElem (by omega)] at this
      rw [hdrop, wd_skip _ _ _ hall]
      cases st with
      | none =>
        simp only
        rw [ih _ _ _ (by omega) (by omega) (fun a h => by cases h; omega)]
        show _ ++ wd _ ((s.data.toList.drop pos).take (pos + w - pos)) = _ ++ wd _ ([] ++ _)
        rw [Nat.add_sub_cancel_left, List.nil_append]
      | some a =>
        simp only
        have h1 := ha a rfl
        rw [ih _ _ _ (by omega) (by omega) (fun a h => by cases h; omega)]
        have e : (s.data.toList.drop a).take (pos + w - a) = (s.data.toList.drop a).take (pos - a) ++ (s.data.toList.drop pos).take w := by
          rw [show pos + w - a = (pos - a) + w by omega, List.take_add, List.drop_drop, show a + (pos - a) = pos by omega]
        show _ ++ wd _ ((s.data.toList.drop a).take (pos + w - a)) = _ ++ wd _ ((s.data.toList.drop a).take (pos - a) ++ _)
        rw [e]
theorem fields_wd (s : ByteArray) : (Lib.goFieldsP blk s).map (fun x => x.data.toList) = wd s.data.toList [] := by
  unfold Lib.goFieldsP Lib.spansOfP
  rw [List.map_map]
  have := fields_step s s.size 0 none [] (by omega) (Nat.zero_le _) (fun a h => by cases h)
  rw [List.drop_zero] at this
  exact this
theorem ba_inj : ∀ {a b : List ByteArray}, a.map (fun x => x.data.toList) = b.map (fun x => x.data.toList) → a = b
  | [], [], _ => rfl
  | [], _ :: _, h => by cases h
  | _ :: _, [], h => by cases h
  | x :: a, y :: b, h => by
    rw [List.map_cons, List.map_cons, List.cons.injEq] at h
    rw [ba_inj h.2, ByteArray.ext (Array.ext' h.1)]
theorem fields_eq {s t : ByteArray} (h : wd s.data.toList [] = wd t.data.toList []) : Lib.goFieldsP blk s = Lib.goFieldsP blk t :=
  ba_inj (by rw [fields_wd, fields_wd, h])
end Go.AM.T
end
/- Blanks more turn nothing. -/
section
set_option maxRecDepth 100000
set_option linter.unusedVariables false
set_option linter.unusedSimpArgs false
namespace Go.AM.T
open Go Go.AM Go.Proofs
theorem small_t (n : Int) : (small n = true) = (n ≤ 9223372036854775807) := by
  unfold small
  cases n with
  | ofNat k => simp only [Nat.ble_eq, Int.ofNat_eq_natCast]; apply propext; omega
  | negSucc k => simp only [true_iff, eq_iff_iff]; omega
theorem small_f (n : Int) : (small n = false) = (9223372036854775807 < n) := by
  have := small_t n
  cases h : small n <;> simp_all
theorem byt_eq (s : ByteArray) (i : Nat) : byt s (i : Int) = ((s.data.toList.getD i 0).toNat : Int) := by
  unfold byt
  rw [Int.toNat_natCast, Lib.getD_get!']
theorem cat_list (a b : ByteArray) : (cat a b).data.toList = a.data.toList ++ b.data.toList := by
  unfold cat
  rw [ByteArray.data_append, Array.toList_append]
theorem eq_r (a : Int) : eq a a = true := (eq_t a a).mpr rfl
theorem seq_r (a : ByteArray) : seq a a = true := by unfold seq; exact beq_self_eq_true _
theorem lbeq_r : ∀ l : List Int, List.beq l l = true := fun l => by
  show (l == l) = true
  exact beq_self_eq_true l
theorem words_same {n : Nat} {s t : ByteArray} (hs : len s ≤ 32768) (ht : len t ≤ 32768) (h : Lib.goFieldsP blk s = Lib.goFieldsP blk t) : f_token_Parse n s = f_token_Parse n t := by
  have h1 : lt 32768 (len s) = false := (lt_f _ _).mpr hs
  have h2 : lt 32768 (len t) = false := (lt_f _ _).mpr ht
  have e1 := len_eq s
  have e2 := len_eq t
  have h3 : f_token_words s = f_token_words t := by
    unfold f_token_words l_fields
    rw [h, if_pos (by omega), if_pos (by omega)]
  unfold f_token_Parse
  rw [h1, h2, h3]
theorem same0_l (n m : Nat) : T (f_kakugyoref10_Same_l0_i n (m + 1) 0) fun _ => True := by
  show T (f_kakugyoref10_Same_l0_s n (f_kakugyoref10_Same_l0_i n m) 0) _
  unfold f_kakugyoref10_Same_l0_s
  simp only [T_br, T_some, T_none, lt_t, lt_f]
  exact ⟨fun h => by omega, fun _ => trivial⟩
theorem same0 (n : Nat) (hn : 100 ≤ n) : T (f_kakugyoref10_Same n) fun y => y.1 = true := by
  obtain ⟨m, rfl⟩ : ∃ m, n = m + 1 := ⟨n - 1, by omega⟩
  unfold f_kakugyoref10_Same f_kakugyoref10_Same_l0
  simp only [T_ob, T_some]
  exact (same0_l _ _).use fun _ _ => trivial
theorem like0 (n : Nat) (hn : 100 ≤ n) (a : _) : T (f_kakugyolaw22_like n a a) fun y => y.1 = true := by
  unfold f_kakugyolaw22_like
  simp only [T_br, T_ob, T_some, T_none, eq_r, seq_r, lbeq_r, forall_const, reduceCtorEq, false_implies, Bool.true_eq_false, and_true, imp_self, implies_true]
  exact (same0 n hn).use fun _ h => h
theorem mv_r (x : Int × Int × Int × Bool × Unit) : (!((eq x.1 x.1) && ((eq x.2.1 x.2.1) && ((eq x.2.2.1 x.2.2.1) && (x.2.2.2.1 == x.2.2.2.1))))) = false := by
  rw [eq_r, eq_r, eq_r, beq_self_eq_true]
  rfl
theorem same3_l (n : Nat) (b : List (Int × Int × Int × Bool × Unit)) (hb : b.length ≤ 9003001) : ∀ (m : Nat) (i : Int), 0 ≤ i → ((b.length : Int) - i).toNat < m → T (f_kakugyoref10_Same_3_l0_i n m i b b) fun y => match y with | .inl _ => False | .inr _ => True
  | 0, i, hI, hm => by omega
  | m + 1, i, hI, hm => by
    have ih := same3_l n b hb m
    show T (f_kakugyoref10_Same_3_l0_s n (f_kakugyoref10_Same_3_l0_i n m) i b b) _
    unfold f_kakugyoref10_Same_3_l0_s
    have := wa_in i 1
    simp only [T_br, T_some, T_none, lt_t, lt_f, inr_t, inr_f, mv_r]
    refine ⟨fun h => ⟨fun _ => ⟨fun _ => ⟨fun h => absurd h (by decide), fun _ => ih _ (by omega) (by omega)⟩, fun h => by omega⟩, fun h => by omega⟩, fun _ => trivial⟩
theorem same3 (n : Nat) (hn : 100000000 ≤ n) (b : List (Int × Int × Int × Bool × Unit)) (hb : b.length ≤ 9003001) : T (f_kakugyoref10_Same_3 n b b) fun y => y.1 = true := by
  unfold f_kakugyoref10_Same_3 f_kakugyoref10_Same_3_l0
  simp only [T_br, T_ob, T_some, T_none, T_sm, eq_r]
  refine ⟨fun h => absurd h (by decide), fun _ => ?_⟩
  refine (same3_l n b hb n 0 (by omega) (by omega)).use fun y hy => ?_
  cases y with
  | inl v => exact hy.elim
  | inr v => trivial
theorem like3 (n : Nat) (hn : 100000000 ≤ n) (a : _) (b : List (Int × Int × Int × Bool × Unit)) (hb : b.length ≤ 9003001) : T (f_kakugyolaw22_like_3 n a a b b) fun y => y.1 = true := by
  unfold f_kakugyolaw22_like_3
  simp only [T_br, T_ob, T_some, T_none, eq_r, seq_r, lbeq_r, forall_const, reduceCtorEq, false_implies, Bool.true_eq_false, and_true, imp_self, implies_true]
  exact (same3 n hn b hb).use fun _ h => h
theorem T_twice {α β : Type} {o : Option α} {f : α → α → Option β} {Q : β → Prop} (ho : T o fun _ => True) (h : ∀ y, T (f y y) Q) : T (ob o fun y => ob o fun z => f y z) Q := by
  cases o with
  | none => exact ho
  | some y => exact h y

theorem plain_t  : T (f_kakugyolaw22_plain) fun _ => True := by
  unfold f_kakugyolaw22_plain
  simp only [T_br, T_some, T_none, T_ob, T_sm, lt_t, lt_f, le_t, le_f, eq_t, eq_f, inr_t, inr_f, inq_t, inq_f, not_t, not_f]
  repeat' (first | apply And.intro | intro _ | split | simp only [T_br, T_some, T_none, T_ob, T_sm, lt_t, lt_f, le_t, le_f, eq_t, eq_f, inr_t, inr_f, inq_t, inq_f, not_t, not_f])
  all_goals (first | exact True.intro | assumption | rfl | omega | (simp only [true_and, and_true, false_and, and_false, or_false, false_or, true_or, or_true] <;> omega))

theorem plain_1_t (c : ByteArray × Unit) : T (f_kakugyolaw22_plain_1 c) fun _ => True := by
  unfold f_kakugyolaw22_plain_1
  simp only [T_br, T_some, T_none, T_ob, T_sm, lt_t, lt_f, le_t, le_f, eq_t, eq_f, inr_t, inr_f, inq_t, inq_f, not_t, not_f]
  repeat' (first | apply And.intro | intro _ | split | simp only [T_br, T_some, T_none, T_ob, T_sm, lt_t, lt_f, le_t, le_f, eq_t, eq_f, inr_t, inr_f, inq_t, inq_f, not_t, not_f])
  all_goals (first | exact True.intro | assumption | rfl | omega | (simp only [true_and, and_true, false_and, and_false, or_false, false_or, true_or, or_true] <;> omega))

theorem plain_2_t (c : ByteArray × ByteArray × Unit) : T (f_kakugyolaw22_plain_2 c) fun _ => True := by
  unfold f_kakugyolaw22_plain_2
  simp only [T_br, T_some, T_none, T_ob, T_sm, lt_t, lt_f, le_t, le_f, eq_t, eq_f, inr_t, inr_f, inq_t, inq_f, not_t, not_f]
  repeat' (first | apply And.intro | intro _ | split | simp only [T_br, T_some, T_none, T_ob, T_sm, lt_t, lt_f, le_t, le_f, eq_t, eq_f, inr_t, inr_f, inq_t, inq_f, not_t, not_f])
  all_goals (first | exact True.intro | assumption | rfl | omega | (simp only [true_and, and_true, false_and, and_false, or_false, false_or, true_or, or_true] <;> omega))

theorem plain_3_t (c : List Int × Unit × Unit) : T (f_kakugyolaw22_plain_3 c) fun _ => True := by
  unfold f_kakugyolaw22_plain_3
  simp only [T_br, T_some, T_none, T_ob, T_sm, lt_t, lt_f, le_t, le_f, eq_t, eq_f, inr_t, inr_f, inq_t, inq_f, not_t, not_f]
  repeat' (first | apply And.intro | intro _ | split | simp only [T_br, T_some, T_none, T_ob, T_sm, lt_t, lt_f, le_t, le_f, eq_t, eq_f, inr_t, inr_f, inq_t, inq_f, not_t, not_f])
  all_goals (first | exact True.intro | assumption | rfl | omega | (simp only [true_and, and_true, false_and, and_false, or_false, false_or, true_or, or_true] <;> omega))

theorem plain_5_t (c : Int × Unit) : T (f_kakugyolaw22_plain_5 c) fun _ => True := by
  unfold f_kakugyolaw22_plain_5
  simp only [T_br, T_some, T_none, T_ob, T_sm, lt_t, lt_f, le_t, le_f, eq_t, eq_f, inr_t, inr_f, inq_t, inq_f, not_t, not_f]
  repeat' (first | apply And.intro | intro _ | split | simp only [T_br, T_some, T_none, T_ob, T_sm, lt_t, lt_f, le_t, le_f, eq_t, eq_f, inr_t, inr_f, inq_t, inq_f, not_t, not_f])
  all_goals (first | exact True.intro | assumption | rfl | omega | (simp only [true_and, and_true, false_and, and_false, or_false, false_or, true_or, or_true] <;> omega))

theorem plain_6_t (c : Int × Int × Unit) : T (f_kakugyolaw22_plain_6 c) fun _ => True := by
  unfold f_kakugyolaw22_plain_6
  simp only [T_br, T_some, T_none, T_ob, T_sm, lt_t, lt_f, le_t, le_f, eq_t, eq_f, inr_t, inr_f, inq_t, inq_f, not_t, not_f]
  repeat' (first | apply And.intro | intro _ | split | simp only [T_br, T_some, T_none, T_ob, T_sm, lt_t, lt_f, le_t, le_f, eq_t, eq_f, inr_t, inr_f, inq_t, inq_f, not_t, not_f])
  all_goals (first | exact True.intro | assumption | rfl | omega | (simp only [true_and, and_true, false_and, and_false, or_false, false_or, true_or, or_true] <;> omega))

theorem plain4_e (c : List Int × Unit × Unit) (b : List (Int × Int × Int × Bool × Unit)) : f_kakugyolaw22_plain_4 c b = some (.inr ((3, (⟨#[112, 111, 115, 105, 116, 105, 111, 110]⟩ : ByteArray), (⟨#[]⟩ : ByteArray), (⟨#[]⟩ : ByteArray), c.1, c.2.1, 0, 0, ()), b, ())) := by kernel_rfl
theorem bl0 (n : Nat) (s more : ByteArray) : ∀ (m : Nat) (i : Nat), more.size - i < m → (∀ j, j < i → bb (more.data.toList.getD j 0) = true) → i ≤ more.size → more.size ≤ 10 →
    T (f_kakugyolaw22_TokenBlanks_l0_i n m s more (len more) i) fun y => match y with | .inl v => v.1 = true | .inr v => v.1 = (s, more) ∧ ∀ j, j < more.size → bb (more.data.toList.getD j 0) = true
  | 0, i, hm, hI, _, _ => by omega
  | m + 1, i, hm, hI, hi, h10 => by
    have ih := bl0 n s more m (i + 1)
    show T (f_kakugyolaw22_TokenBlanks_l0_s n (f_kakugyolaw22_TokenBlanks_l0_i n m) s more (len more) i) _
    unfold f_kakugyolaw22_TokenBlanks_l0_s
    have hl := len_eq more
    have hw : wa .i64 (i : Int) 1 = ((i + 1 : Nat) : Int) := by have := wa_in (i : Int) 1; omega
    have hb : ∀ k : Nat, ((more.data.toList.getD i 0).toNat : Int) = (k : Int) → (k = 32 ∨ k = 9 ∨ k = 13) → ∀ j, j < i + 1 → bb (more.data.toList.getD j 0) = true := fun k hk hk' j hj => by
      by_cases e : j < i
      · exact hI j e
      · obtain rfl : j = i := by omega
        rw [bb_nat, show (more.data.toList.getD j 0).toNat = k by omega]
        rcases hk' with rfl | rfl | rfl <;> rfl
    simp only [T_br, T_some, T_none, lt_t, lt_f, inr_t, inr_f, eq_t, eq_f, not_t, not_f, byt_eq, hw]
    refine ⟨fun h => ⟨fun _ => ⟨fun _ => ⟨fun _ => ⟨fun _ => ⟨fun _ => ⟨fun _ => trivial, fun h2 => ?_⟩, fun h => by omega⟩, fun h2 => ?_⟩, fun h => by omega⟩, fun h2 => ?_⟩, fun h => by omega⟩, fun h => ⟨trivial, fun j hj => hI j (by omega)⟩⟩
    · exact ih (by omega) (hb 13 (by omega) (by omega)) (by omega) h10
    · exact ih (by omega) (hb 9 (by omega) (by omega)) (by omega) h10
    · exact ih (by omega) (hb 32 (by omega) (by omega)) (by omega) h10
theorem widen_len (m : List UInt8) : ∀ l : List UInt8, (widen m l).length ≤ (m.length + 1) * l.length
  | [] => Nat.zero_le _
  | b :: l => by
    have := widen_len m l
    rw [widen, List.length_cons, Nat.mul_add]
    split
    · rw [List.length_cons, List.length_append]; omega
    · rw [List.length_cons]; omega
theorem take_succ_getD (l : List UInt8) (i : Nat) (h : i < l.length) : l.take (i + 1) = l.take i ++ [l.getD i 0] := by
  rw [List.take_add_one, List.getElem?_eq_getElem h, List.getD_eq_getElem?_getD, List.getElem?_eq_getElem h]
  rfl
theorem bl2 (n : Nat) (s more : ByteArray) (h10 : more.size ≤ 10) (h1000 : s.size ≤ 1000) : ∀ (m : Nat) (w : ByteArray) (i : Nat), s.size - i < m → i ≤ s.size → w.data.toList = more.data.toList ++ widen more.data.toList (s.data.toList.take i) →
    T (f_kakugyolaw22_TokenBlanks_l2_i n m s more w (len s) i) fun y => y.1.1 = s ∧ y.1.2.1 = more ∧ y.1.2.2.data.toList = more.data.toList ++ widen more.data.toList s.data.toList
  | 0, w, i, hm, _, _ => by omega
  | m + 1, w, i, hm, hi, hw => by
    have ih := bl2 n s more h10 h1000 m
    show T (f_kakugyolaw22_TokenBlanks_l2_s n (f_kakugyolaw22_TokenBlanks_l2_i n m) s more w (len s) i) _
    unfold f_kakugyolaw22_TokenBlanks_l2_s
    have hl := len_eq s
    have hlm := len_eq more
    have hsl : s.data.toList.length = s.size := Array.length_toList
    have hml : more.data.toList.length = more.size := Array.length_toList
    have ha : wa .i64 (i : Int) 1 = ((i + 1 : Nat) : Int) := by have := wa_in (i : Int) 1; omega
    rw [ha]
    simp only [Int.toNat_natCast]
    have hz : ∀ z : ByteArray, len z = (z.data.toList.length : Int) := fun z => by rw [len_eq, show z.data.toList.length = z.size from Array.length_toList]
    have hwl : w.data.toList.length ≤ 10 + 11 * 1000 := by
      have h1 := widen_len more.data.toList (s.data.toList.take i)
      have h2 : (s.data.toList.take i).length ≤ 1000 := by rw [List.length_take]; omega
      have h3 : (more.data.toList.length + 1) * (s.data.toList.take i).length ≤ 11 * 1000 := Nat.mul_le_mul (by omega) h2
      rw [hw, List.length_append]
      omega
    simp only [T_br, T_some, T_none, lt_t, lt_f, inr_t, inr_f, eq_t, eq_f, byt_eq, small_t, small_f]
    refine ⟨fun h => ?_, fun h => ?_⟩
    · have hlt : i < s.size := by omega
      have hx : (s.extract i (i + 1)).data.toList = [s.data.toList.getD i 0] := by
        rw [ext_list, Nat.add_sub_cancel_left, List.drop_eq_getElem_cons (by omega), List.getD_eq_getElem?_getD, List.getElem?_eq_getElem (by omega)]
        rfl
      have hxl : len (s.extract i (i + 1)) = 1 := by rw [hz, hx]; rfl
      have hcl : len (cat w (s.extract i (i + 1))) = w.data.toList.length + 1 := by rw [hz, cat_list, hx, List.length_append]; rfl
      have ht := take_succ_getD s.data.toList i (by omega)
      refine ⟨fun _ => ⟨fun _ => ⟨fun _ => ⟨fun h2 => ⟨fun _ => ?_, fun h3 => ?_⟩, fun h2 => ?_⟩, fun h => by omega⟩, fun h3 => ?_⟩, fun h3 => ?_⟩
      · refine ih _ (i + 1) (by omega) (by omega) ?_
        rw [cat_list, cat_list, hx, hw, ht, widen_app, List.append_assoc, List.append_assoc]
        have h32 : s.data.toList.getD i 0 = 32 := UInt8.toNat_inj.1 (by show _ = 32; omega)
        rw [h32]
        show _ = _ ++ (_ ++ widen _ [32])
        rw [widen, if_pos rfl, widen, List.append_nil]
        rfl
      · rw [hcl, hlm] at h3; omega
      · refine ih _ (i + 1) (by omega) (by omega) ?_
        rw [cat_list, hx, hw, ht, widen_app, List.append_assoc]
        have h32 : ¬ s.data.toList.getD i 0 = 32 := fun e => h2 (by rw [e]; rfl)
        rw [widen, if_neg h32, widen]
      · rw [hz w, hxl] at h3; omega
      · exfalso
        have e1 : inq ((i + 1 : Nat) : Int) (len s) = true := (inq_t _ _).mpr (by omega)
        have e2 : inq (i : Int) ((i + 1 : Nat) : Int) = true := (inq_t _ _).mpr (by omega)
        rw [e1, e2] at h3
        exact absurd h3 (by decide)
    · refine ⟨trivial, trivial, ?_⟩
      rw [hw, List.take_of_length_le (by omega)]
abbrev NN : Nat := 10000000000
theorem reads_nn : f_kakugyolaw22_reads NN = some (true, (), ()) := by kernel_rfl
theorem start_some : (f_board_Start NN).isSome = true := by kernel_rfl
theorem t_start : T (f_board_Start NN) fun _ => True := by
  have := start_some
  cases h : f_board_Start NN with
  | none => rw [h] at this; exact absurd this (by decide)
  | some y => trivial
theorem blanks_t (s more : ByteArray) : T (f_kakugyolaw22_TokenBlanks NN s more) fun y => y.1 = true := by
  have hr := reads_nn
  have hl := len_eq s
  have hlm := len_eq more
  unfold f_kakugyolaw22_TokenBlanks
  rw [hr]
  show T (Br (!true) _ _) _
  rw [T_br]
  refine ⟨fun h => absurd h (by decide), fun _ => ?_⟩
  rw [T_br]
  refine ⟨fun _ => rfl, fun h1 => ?_⟩
  rw [T_br]
  refine ⟨fun _ => rfl, fun h2 => ?_⟩
  rw [T_br]
  refine ⟨fun _ => rfl, fun h3 => ?_⟩
  rw [lt_f] at h1 h2 h3
  rw [T_ob]
  refine (bl0 NN s more NN 0 (by have : NN = 10000000000 := rfl; omega) (fun j hj => by omega) (by omega) (by omega)).use fun y hy => ?_
  rw [T_sm]
  rcases y with v | v
  · exact hy
  obtain ⟨⟨v1, v2⟩, _⟩ := v
  obtain ⟨e, hbl⟩ := hy
  simp only [Prod.mk.injEq] at e
  obtain ⟨rfl, rfl⟩ := e
  show T (ob (f_kakugyolaw22_TokenBlanks_l2 NN v1 v2 v2 (len v1) 0) _) _
  rw [T_ob]
  refine (bl2 NN v1 v2 (by omega) (by omega) NN v2 0 (by have : NN = 10000000000 := rfl; omega) (by omega) (by rw [List.take_zero, widen, List.append_nil])).use fun y hy => ?_
  obtain ⟨⟨s', m', w⟩, u⟩ := y
  obtain ⟨e1, e2, hw⟩ := hy
  simp only at e1 e2 hw
  subst e1 e2
  have hsl : s'.data.toList.length = s'.size := Array.length_toList
  have hml : m'.data.toList.length = m'.size := Array.length_toList
  have hwl : w.data.toList.length = w.size := Array.length_toList
  have hbm : ∀ b ∈ m'.data.toList, bb b = true := fun b hb => by
    obtain ⟨j, hj, rfl⟩ := List.mem_iff_getElem.1 hb
    have := hbl j (by omega)
    rwa [List.getD_eq_getElem?_getD, List.getElem?_eq_getElem (by omega)] at this
  have hwz : w.size ≤ 11010 := by
    have h1 := widen_len m'.data.toList s'.data.toList
    have h3 : (m'.data.toList.length + 1) * s'.data.toList.length ≤ 11 * 1000 := Nat.mul_le_mul (by omega) (by omega)
    rw [← hwl, hw, List.length_append]
    omega
  have hcz : len (cat w m') ≤ 32768 := by
    have : (cat w m').data.toList.length = (cat w m').size := Array.length_toList
    rw [len_eq, ← this, cat_list, List.length_append]
    omega
  have hsame : f_token_Parse NN (cat w m') = f_token_Parse NN s' := words_same hcz (by omega) (fields_eq (by
    rw [cat_list, hw, List.append_assoc, wd_blanks _ _ hbm, wd_tail _ _ _ hbm, wd_widen _ hbm]))
  obtain ⟨y, hy, hq⟩ := (t_tp NN (by decide) t_start s' (by omega)).get
  show T (ob (f_token_Parse NN s') _) _
  have hsm : small ((len w) + (len m')) = true := (small_t _).mpr (by rw [len_eq, len_eq]; omega)
  rw [hy, T_ob, T_some, T_sm]

  have fin : ∀ {β : Type} {o : Option β} {P : β → Prop} {Q : β → Prop}, T o P → (∀ y, P y → Q y) → T o Q := fun h k => h.use k
  rcases y with v | v | v | v | v | v | v
  · show T (Br (small ((len w) + (len m'))) _ _) _
    rw [T_br]
    refine ⟨fun _ => ?_, fun h => by rw [hsm] at h; exact absurd h (by decide)⟩
    show T (ob (f_token_Parse NN (cat w m')) _) _
    rw [hsame, hy]
    show T (Br (eq _ _) _ _) _
    rw [T_br]
    refine ⟨fun _ => ?_, fun h => by rw [eq_r] at h; exact absurd h (by decide)⟩
    refine T_twice (plain_t) fun z => ?_
    rw [T_ob]
    exact (like0 NN (by decide) _).use fun _ h => h
  · show T (Br (small ((len w) + (len m'))) _ _) _
    rw [T_br]
    refine ⟨fun _ => ?_, fun h => by rw [hsm] at h; exact absurd h (by decide)⟩
    show T (ob (f_token_Parse NN (cat w m')) _) _
    rw [hsame, hy]
    show T (Br (eq _ _) _ _) _
    rw [T_br]
    refine ⟨fun _ => ?_, fun h => by rw [eq_r] at h; exact absurd h (by decide)⟩
    refine T_twice (plain_1_t _) fun z => ?_
    rw [T_ob]
    exact (like0 NN (by decide) _).use fun _ h => h
  · show T (Br (small ((len w) + (len m'))) _ _) _
    rw [T_br]
    refine ⟨fun _ => ?_, fun h => by rw [hsm] at h; exact absurd h (by decide)⟩
    show T (ob (f_token_Parse NN (cat w m')) _) _
    rw [hsame, hy]
    show T (Br (eq _ _) _ _) _
    rw [T_br]
    refine ⟨fun _ => ?_, fun h => by rw [eq_r] at h; exact absurd h (by decide)⟩
    refine T_twice (plain_2_t _) fun z => ?_
    rw [T_ob]
    exact (like0 NN (by decide) _).use fun _ h => h
  · show T (Br (small ((len w) + (len m'))) _ _) _
    rw [T_br]
    refine ⟨fun _ => ?_, fun h => by rw [hsm] at h; exact absurd h (by decide)⟩
    show T (ob (f_token_Parse NN (cat w m')) _) _
    rw [hsame, hy]
    show T (Br (eq _ _) _ _) _
    rw [T_br]
    refine ⟨fun _ => ?_, fun h => by rw [eq_r] at h; exact absurd h (by decide)⟩
    refine T_twice (plain_3_t _) fun z => ?_
    rw [T_ob]
    exact (like0 NN (by decide) _).use fun _ h => h
  · show T (Br (small ((len w) + (len m'))) _ _) _
    rw [T_br]
    refine ⟨fun _ => ?_, fun h => by rw [hsm] at h; exact absurd h (by decide)⟩
    show T (ob (f_token_Parse NN (cat w m')) _) _
    rw [hsame, hy]
    show T (Br (eq _ _) _ _) _
    rw [T_br]
    refine ⟨fun _ => ?_, fun h => by rw [eq_r] at h; exact absurd h (by decide)⟩
    rw [plain4_e]
    show T (ob (f_kakugyolaw22_like_3 NN _ _ _ _) _) _
    rw [T_ob]
    exact (like3 NN (by decide) _ _ hq).use fun _ h => h
  · show T (Br (small ((len w) + (len m'))) _ _) _
    rw [T_br]
    refine ⟨fun _ => ?_, fun h => by rw [hsm] at h; exact absurd h (by decide)⟩
    show T (ob (f_token_Parse NN (cat w m')) _) _
    rw [hsame, hy]
    show T (Br (eq _ _) _ _) _
    rw [T_br]
    refine ⟨fun _ => ?_, fun h => by rw [eq_r] at h; exact absurd h (by decide)⟩
    refine T_twice (plain_5_t _) fun z => ?_
    rw [T_ob]
    exact (like0 NN (by decide) _).use fun _ h => h
  · show T (Br (small ((len w) + (len m'))) _ _) _
    rw [T_br]
    refine ⟨fun _ => ?_, fun h => by rw [hsm] at h; exact absurd h (by decide)⟩
    show T (ob (f_token_Parse NN (cat w m')) _) _
    rw [hsame, hy]
    show T (Br (eq _ _) _ _) _
    rw [T_br]
    refine ⟨fun _ => ?_, fun h => by rw [eq_r] at h; exact absurd h (by decide)⟩
    refine T_twice (plain_6_t _) fun z => ?_
    rw [T_ob]
    exact (like0 NN (by decide) _).use fun _ h => h
theorem blanks_some (s more : ByteArray) : ∃ y, f_kakugyolaw22_TokenBlanks NN s more = some y ∧ y.1 = true := (blanks_t s more).get
end Go.AM.T
end
/- What the row of the statement calls. -/
section
set_option maxRecDepth 100000
set_option linter.unusedVariables false
namespace Go.AM.T
open Go Go.AM Go.Proofs Go.RowKit
theorem gv_size {w : World} (h : Gv w) : 8 ≤ w.heap.size := by
  have := h.tab 0 (by decide)
  rcases Nat.lt_or_ge 7 w.heap.size with h1 | h1
  · exact h1
  · rw [World.cell?, Array.getElem?_eq_none h1] at this
    cases this
theorem blanks_calls (s more : ByteArray) (w : World) (hG : Gv w) : Calls Tryz.prog 5 #[.string s, .string more] w fun e w' => e = .returned (.bool true) ∧ Below w.heap.size w w' := by
  obtain ⟨y, hy, ht⟩ := blanks_some s more
  refine (fok_calls (f_kakugyolaw22_TokenBlanks_ok cx NN) (x := ((s, more), ())) hy rfl w hG (gv_size hG) (vs := [.string s, .string more]) (enters Tryz.func5 (by kernel_rfl) _ _) ⟨drs_ _, drs_ _, trivial⟩).mono fun e w' ⟨v, ι', he, hd, hb⟩ => ⟨?_, hb⟩
  obtain ⟨rfl, _⟩ := dr_b hd
  rw [he, ht]
end Go.AM.T
end
