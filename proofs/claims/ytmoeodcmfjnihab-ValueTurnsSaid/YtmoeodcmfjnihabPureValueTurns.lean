/- For every position the law ValueTurns answers true: what is good for one side is as bad for the other, and with the board turned about it counts the same. The plain part. -/
import Derived.Test.YtmoeodcmfjnihabPax7
import Derived.OpenShut
namespace Go.Proofs.Ytmoeodcmfjnihab.Pure.ValueTurns
open Go.RowKit Go.Proofs.Ytmoeodcmfjnihab.Pa
set_option linter.unusedVariables false
set_option linter.unusedSimpArgs false
theorem wadd (a b : Int) : wrap64 (wrap64 a + b) = wrap64 (a + b) := by unfold wrap64; omega
theorem wsub (a b : Int) : wrap64 (wrap64 a - wrap64 b) = wrap64 (a - b) := by unfold wrap64; omega
theorem wneg (a b : Int) : wrap64 (-(wrap64 (a - b))) = wrap64 (b - a) := by unfold wrap64; omega
theorem wself (a : Int) (h : -128 ≤ a ∧ a ≤ 127) : wrap64 a = a := by unfold wrap64; omega
-- sums
def sumN : Nat → (Nat → Int) → Int
  | 0, _ => 0
  | n + 1, f => sumN n f + f n
theorem sumN_front (f : Nat → Int) : ∀ n, sumN (n + 1) f = f 0 + sumN n (fun i => f (i + 1))
  | 0 => by simp [sumN]
  | n + 1 => by
    show sumN (n + 1) f + f (n + 1) = f 0 + (sumN n (fun i => f (i + 1)) + f (n + 1))
    rw [sumN_front f n]
    omega
theorem sumN_congr {f g : Nat → Int} : ∀ n, (∀ i, i < n → f i = g i) → sumN n f = sumN n g
  | 0, _ => rfl
  | n + 1, h => by
    show sumN n f + f n = sumN n g + g n
    rw [sumN_congr n (fun i hi => h i (by omega)), h n (by omega)]
theorem sumN_rev (f : Nat → Int) : ∀ n, sumN n f = sumN n (fun i => f (n - 1 - i))
  | 0 => rfl
  | n + 1 => by
    rw [sumN_front (fun i => f (n + 1 - 1 - i)) n]
    show sumN n f + f n = f (n + 1 - 1 - 0) + _
    have e : sumN n f = sumN n (fun i => f (n + 1 - 1 - (i + 1))) := by
      rw [sumN_rev f n]
      exact sumN_congr n fun i hi => by congr 1; omega
    rw [← e, show n + 1 - 1 - 0 = n by omega]
    omega
-- one square
def sd (v : Int) : Int := (piece_Side.f 9 v).getD 0
def kd (v : Int) : Int := (piece_Kind.f 9 v).getD 0
def pc (v : Int) : Int := (value_Piece.f 30 (kd v)).getD 0
def sq (q : Int) : Int := (value_Square.f q).getD 0
def S (s : Int) (q : Nat) (v : Int) : Int := if sd v = s ∧ kd v ≠ 8 then wrap64 (pc v + sq q) else 0
def cellOk (v : Int) : Bool := decide (piece_Side.f 9 v = some (sd v)) && (decide (sd v = -1) || (decide (sd v = 0 ∨ sd v = 1) && decide (piece_Kind.f 9 v = some (kd v)) && (decide (kd v = 8) || decide (value_Piece.f 30 (kd v) = some (pc v)))))
theorem cells_ok : ∀ v : Fin 32, cellOk (v.1 : Int) = true := by decide +kernel
theorem squares_ok : ∀ q : Fin 81, (value_Square.f (q.1 : Int)).isSome = true ∧ sq ((80 - q.1 : Nat) : Int) = sq (q.1 : Int) := by decide +kernel
theorem cell_is (q : Nat) (v a b : Int) (hq : q < 81) (hv : 0 ≤ v ∧ v < 32) : value_Of.cell q v (wrap64 a) (wrap64 b) = some (wrap64 (a + S 0 q v), wrap64 (b + S 1 q v)) := by
  obtain ⟨n, rfl⟩ : ∃ n : Nat, v = (n : Int) := ⟨v.toNat, by omega⟩
  have h := cells_ok ⟨n, by omega⟩
  simp only [cellOk, Bool.and_eq_true, Bool.or_eq_true, decide_eq_true_eq] at h
  obtain ⟨h1, h2⟩ := h
  have h3 : value_Square.f (q : Int) = some (sq q) := by
    obtain ⟨e, he⟩ := Option.isSome_iff_exists.1 (squares_ok ⟨q, hq⟩).1
    simp only [sq, he]
    rfl
  generalize (n : Int) = v at *
  unfold value_Of.cell
  rw [h1, Option.bind_some]
  rcases h2 with h2 | ⟨⟨h2, h4⟩, h5⟩
  · rw [if_neg (by omega), S, S, if_neg (by omega), if_neg (by omega), Int.add_zero, Int.add_zero]
  · rw [if_pos (by omega), h4, Option.bind_some]
    by_cases h8 : kd v = 8
    · rw [if_pos h8, S, S, if_neg (by omega), if_neg (by omega), Int.add_zero, Int.add_zero]
    · rw [if_neg h8]
      have h6 : value_Piece.f 30 (kd v) = some (pc v) := by rcases h5 with h5 | h5; exact absurd h5 h8; exact h5
      rw [h6, Option.bind_some, h3, Option.bind_some, if_pos h2, value_Of.addTo]
      rcases h2 with h2 | h2
      · rw [if_pos h2, S, S, if_pos ⟨h2, h8⟩, if_neg (by omega), wadd, Int.add_zero]
      · rw [if_neg (by omega), S, S, if_neg (by omega), if_pos ⟨h2, h8⟩, wadd, Int.add_zero]
theorem board_is : ∀ (l : List Int) (q : Nat) (a b : Int), q + l.length ≤ 81 → (∀ v ∈ l, 0 ≤ v ∧ v < 32) →
    value_Of.board l q (wrap64 a) (wrap64 b) = some (wrap64 (a + sumN l.length (fun i => S 0 (q + i) (l.getD i 0))), wrap64 (b + sumN l.length (fun i => S 1 (q + i) (l.getD i 0))))
  | [], q, a, b, _, _ => by simp [value_Of.board, sumN]
  | v :: l, q, a, b, hq, hv => by
    simp only [List.length_cons] at hq
    unfold value_Of.board
    rw [cell_is q v a b (by omega) (hv v (List.mem_cons_self ..)), Option.bind_some]
    dsimp only
    rw [board_is l (q + 1) _ _ (by omega) (fun u hu => hv u (List.mem_cons_of_mem _ hu)), List.length_cons, sumN_front, sumN_front]
    simp only [List.getD_cons_zero, List.getD_cons_succ, Nat.add_zero, Int.add_assoc]
    simp only [Nat.add_assoc, Nat.add_comm 1]
def HS (f : Nat → Int) (l : List Int) : Int := sumN l.length (fun i => wrap64 (wrap64 (l.getD i 0) * f i))
def hd (i : Nat) : Int := (value_Hand.f 30 (i : Int)).getD 0
theorem hands_ok : ∀ i : Fin 8, value_Hand.f 30 (i.1 : Int) = some (hd i.1) := by decide +kernel
theorem hand_is (s : Int) : ∀ (l : List Int) (q : Nat) (a b : Int), q + l.length ≤ 8 →
    value_Of.hand s l q (wrap64 a) (wrap64 b) = some (if s = 0 then (wrap64 (a + HS (fun i => hd (q + i)) l), wrap64 b) else (wrap64 a, wrap64 (b + HS (fun i => hd (q + i)) l)))
  | [], q, a, b, _ => by simp [value_Of.hand, sumN, HS]
  | c :: l, q, a, b, hq => by
    simp only [List.length_cons] at hq
    unfold value_Of.hand
    rw [hands_ok ⟨q, by omega⟩, Option.bind_some]
    by_cases hs : s = 0
    · simp only [value_Of.addTo, if_pos hs, wadd]
      rw [hand_is s l (q + 1) _ _ (by omega), if_pos hs, HS, HS, List.length_cons, sumN_front]
      simp only [List.getD_cons_zero, List.getD_cons_succ, Nat.add_zero, Int.add_assoc, Nat.add_assoc, Nat.add_comm 1]
    · simp only [value_Of.addTo, if_neg hs, wadd]
      rw [hand_is s l (q + 1) _ _ (by omega), if_neg hs, HS, HS, List.length_cons, sumN_front]
      simp only [List.getD_cons_zero, List.getD_cons_succ, Nat.add_zero, Int.add_assoc, Nat.add_assoc, Nat.add_comm 1]
def X (s : Int) (B : List Int) (h : List Int) : Int := sumN 81 (fun i => S s i (B.getD i 0)) + HS hd h
theorem of_is (cs : List Int) (hl : cs.length = 98) (hv : ∀ i, i < 81 → 0 ≤ cs.getD i 0 ∧ cs.getD i 0 < 32) :
    value_Of.f cs = some (if cs.getD 97 0 = 1 then wrap64 (X 1 cs ((cs.drop 89).take 8) - X 0 cs ((cs.drop 81).take 8)) else wrap64 (X 0 cs ((cs.drop 81).take 8) - X 1 cs ((cs.drop 89).take 8))) := by
  have hlen : (cs.take 81).length = 81 := by simp; omega
  have hg : ∀ i, i < 81 → (cs.take 81).getD i 0 = cs.getD i 0 := fun i hi => by
    simp only [List.getD_eq_getElem?_getD, List.getElem?_take_of_lt hi]
  have hb := board_is (cs.take 81) 0 0 0 (by omega) (fun v hm => by
    obtain ⟨i, hi, rfl⟩ := List.mem_iff_getElem.1 hm
    have h81 : i < 81 := by omega
    have e := hv i h81
    rw [← hg i h81, List.getD_eq_getElem?_getD, List.getElem?_eq_getElem hi] at e
    exact e)
  rw [hlen, Int.zero_add, Int.zero_add, wself 0 (by omega)] at hb
  have e0 : (((cs.drop 81).take 16).drop (0 * 8)).take 8 = (cs.drop 81).take 8 := by
    rw [Nat.zero_mul, List.drop_zero, List.take_take]
    rfl
  have e1 : (((cs.drop 81).take 16).drop (1 * 8)).take 8 = (cs.drop 89).take 8 := by
    rw [List.drop_take, List.drop_drop, List.take_take]
    rfl
  unfold value_Of.f
  rw [hb, Option.bind_some]
  simp only [value_Of.hands, e0, e1]
  rw [hand_is 0 _ 0 _ _ (by simp; omega), if_pos rfl, Option.bind_some]
  dsimp only
  rw [hand_is 1 _ 0 _ _ (by simp; omega), if_neg (by decide), Option.bind_some]
  simp only [Nat.zero_add, wsub, X]
  have c0 : sumN 81 (fun i => S 0 i ((cs.take 81).getD i 0)) = sumN 81 (fun i => S 0 i (cs.getD i 0)) := sumN_congr 81 fun i hi => by rw [hg i hi]
  have c1 : sumN 81 (fun i => S 1 i ((cs.take 81).getD i 0)) = sumN 81 (fun i => S 1 i (cs.getD i 0)) := sumN_congr 81 fun i hi => by rw [hg i hi]
  rw [c0, c1]
-- the other side
theorem other_is (R : List Int) (hl : R.length = 98) (hv : ∀ i, i < 81 → 0 ≤ R.getD i 0 ∧ R.getD i 0 < 32) (hs : R.getD 97 0 = 0 ∨ R.getD 97 0 = 1) :
    ∃ v, value_Of.f R = some v ∧ value_Of.f (R.set 97 (IntKind.i8.wrap (1 - R.getD 97 0))) = some (wrap64 (-v)) := by
  refine ⟨_, of_is R hl hv, ?_⟩
  have hg : ∀ i, i < 81 → (R.set 97 (IntKind.i8.wrap (1 - R.getD 97 0))).getD i 0 = R.getD i 0 := fun i hi => by
    simp only [List.getD_eq_getElem?_getD, List.getElem?_set_ne (show 97 ≠ i by omega)]
  have h97 : (R.set 97 (IntKind.i8.wrap (1 - R.getD 97 0))).getD 97 0 = IntKind.i8.wrap (1 - R.getD 97 0) := by
    simp only [List.getD_eq_getElem?_getD, List.getElem?_set_self (show 97 < R.length by omega)]
    rfl
  rw [of_is _ (by rw [List.length_set]; exact hl) (fun i hi => by rw [hg i hi]; exact hv i hi), h97]
  have a0 : ((R.set 97 (IntKind.i8.wrap (1 - R.getD 97 0))).drop 81).take 8 = (R.drop 81).take 8 := by
    rw [List.take_drop, List.take_drop, List.take_set_of_le (by omega)]
  have a1 : ((R.set 97 (IntKind.i8.wrap (1 - R.getD 97 0))).drop 89).take 8 = (R.drop 89).take 8 := by
    rw [List.take_drop, List.take_drop, List.take_set_of_le (by omega)]
  have x (s : Int) (h : List Int) : X s (R.set 97 (IntKind.i8.wrap (1 - R.getD 97 0))) h = X s R h := by
    simp only [X]
    rw [sumN_congr 81 fun i hi => by rw [hg i hi]]
  rw [a0, a1, x, x]
  rcases hs with hs | hs
  · rw [hs, show IntKind.i8.wrap (1 - 0) = 1 by decide, if_pos rfl, if_neg (by decide), wneg]
  · rw [hs, show IntKind.i8.wrap (1 - 1) = 0 by decide, if_neg (by decide), if_pos rfl, wneg]
-- the board turned about
def tv (v : Int) : Int := if sd v = 0 then v + 16 else if sd v = 1 then v - 16 else 0
def turnOk (v : Int) : Bool := decide (kakugyoref02_Side.f v = some (sd v)) && (decide (sd v = 0 ∧ IntKind.i8.wrap (v + 16) = v + 16) || decide (sd v = 1 ∧ IntKind.i8.wrap (v - 16) = v - 16) || decide (sd v = -1)) && decide (0 ≤ tv v ∧ tv v < 32) && decide (sd (tv v) = 0 ↔ sd v = 1) && decide (sd (tv v) = 1 ↔ sd v = 0) && decide (sd v = -1 ∨ (kd (tv v) = kd v ∧ pc (tv v) = pc v))
theorem turns_ok : ∀ v : Fin 32, turnOk (v.1 : Int) = true := by decide +kernel
theorem turn_ok (v : Int) (hv : 0 ≤ v ∧ v < 32) : turnOk v = true := by
  obtain ⟨n, rfl⟩ : ∃ n : Nat, v = (n : Int) := ⟨v.toNat, by omega⟩
  exact turns_ok ⟨n, by omega⟩
theorem S_turned (q : Nat) (v : Int) (hq : q < 81) (hv : 0 ≤ v ∧ v < 32) : S 0 q (tv v) = S 1 (80 - q) v ∧ S 1 q (tv v) = S 0 (80 - q) v := by
  have h := turn_ok v hv
  simp only [turnOk, Bool.and_eq_true, Bool.or_eq_true, decide_eq_true_eq] at h
  obtain ⟨⟨⟨⟨⟨h1, h2⟩, h3⟩, h4⟩, h5⟩, h6⟩ := h
  have h7 := (squares_ok ⟨q, hq⟩).2
  dsimp only at h7
  unfold S
  rcases h6 with h6 | ⟨h6, h8⟩
  · constructor
    · rw [if_neg (fun c => by have := h4.1 c.1; omega), if_neg (fun c => by omega)]
    · rw [if_neg (fun c => by have := h5.1 c.1; omega), if_neg (fun c => by omega)]
  · rw [h6, h8, h7]
    constructor
    · by_cases c : sd v = 1
      · simp only [h4.2 c, c]
      · rw [if_neg (fun d => c (h4.1 d.1)), if_neg (fun d => c d.1)]
    · by_cases c : sd v = 0
      · simp only [h5.2 c, c]
      · rw [if_neg (fun d => c (h5.1 d.1)), if_neg (fun d => c d.1)]
theorem turn_is (R : List Int) (hv : ∀ i, i < 81 → 0 ≤ R.getD i 0 ∧ R.getD i 0 < 32) : ∀ (d n : Nat) (T : List Int), n + d = 81 → T.length = 98 → (∀ i, i < d → T.getD i 0 = 0) →
    ∃ T', kakugyolaw17_ValueTurns.turn R n d T = some T' ∧ T'.length = 98 ∧ (∀ i, i < d → T'.getD i 0 = tv (R.getD (80 - i) 0)) ∧ (∀ i, d ≤ i → T'.getD i 0 = T.getD i 0)
  | 0, n, T, _, hl, _ => ⟨T, rfl, hl, fun i hi => absurd hi (by omega), fun i _ => rfl⟩
  | d + 1, n, T, hn, hl, hz => by
    have hvn := hv n (by omega)
    have h := turn_ok _ hvn
    simp only [turnOk, Bool.and_eq_true, Bool.or_eq_true, decide_eq_true_eq] at h
    obtain ⟨⟨⟨⟨⟨h1, h2⟩, h3⟩, h4⟩, h5⟩, h6⟩ := h
    have hd : 80 - n = d := by omega
    have hT : (if sd (R.getD n 0) = 0 then T.set (80 - n) (IntKind.i8.wrap (R.getD n 0 + 16)) else if sd (R.getD n 0) = 1 then T.set (80 - n) (IntKind.i8.wrap (R.getD n 0 - 16)) else T).length = 98 ∧
        ∀ i, (if sd (R.getD n 0) = 0 then T.set (80 - n) (IntKind.i8.wrap (R.getD n 0 + 16)) else if sd (R.getD n 0) = 1 then T.set (80 - n) (IntKind.i8.wrap (R.getD n 0 - 16)) else T).getD i 0 = if i = d then tv (R.getD n 0) else T.getD i 0 := by
      rw [hd]
      have hset (u : Int) (i : Nat) : (T.set d u).getD i 0 = if i = d then u else T.getD i 0 := by
        by_cases hi : i = d
        · subst hi
          simp only [List.getD_eq_getElem?_getD, List.getElem?_set_self (show i < T.length by omega), if_pos]
          rfl
        · simp only [List.getD_eq_getElem?_getD, List.getElem?_set_ne (Ne.symm hi), if_neg hi]
      rcases h2 with (⟨c0, c1⟩ | ⟨c0, c1⟩) | c0
      · rw [if_pos c0]
        exact ⟨by rw [List.length_set]; exact hl, fun i => by rw [hset, c1, tv, if_pos c0]⟩
      · rw [if_neg (by omega), if_pos c0]
        exact ⟨by rw [List.length_set]; exact hl, fun i => by rw [hset, c1, show tv (R.getD n 0) = R.getD n 0 - 16 by rw [tv, if_neg (by omega), if_pos c0]]⟩
      · rw [if_neg (by omega), if_neg (by omega)]
        refine ⟨hl, fun i => ?_⟩
        by_cases hi : i = d
        · rw [if_pos hi, hi, hz d (by omega), tv, if_neg (by omega), if_neg (by omega)]
        · rw [if_neg hi]
    unfold kakugyolaw17_ValueTurns.turn
    rw [wself _ (by omega), h1, Option.bind_some]
    obtain ⟨T', e1, e2, e3, e4⟩ := turn_is R hv d (n + 1) _ (by omega) hT.1 (fun i hi => by rw [hT.2 i, if_neg (by omega), hz i (by omega)])
    refine ⟨T', e1, e2, fun i hi => ?_, fun i hi => by rw [e4 i (by omega), hT.2 i, if_neg (by omega)]⟩
    by_cases hid : i = d
    · subst hid
      rw [e4 i (Nat.le_refl _), hT.2 i, if_pos rfl, show 80 - i = n by omega]
    · exact e3 i (by omega)
theorem ext8 (l m : List Int) (hl : l.length = 98) (hm : m.length = 98) (a b : Nat) (ha : a + 8 ≤ 98) (hb : b + 8 ≤ 98) (h : ∀ i, i < 8 → l.getD (a + i) 0 = m.getD (b + i) 0) : (l.drop a).take 8 = (m.drop b).take 8 := by
  apply List.ext_getElem?
  intro i
  by_cases hi : i < 8
  · rw [List.getElem?_take_of_lt hi, List.getElem?_take_of_lt hi, List.getElem?_drop, List.getElem?_drop]
    have e := h i hi
    rw [List.getD_eq_getElem?_getD, List.getD_eq_getElem?_getD, List.getElem?_eq_getElem (by omega), List.getElem?_eq_getElem (by omega)] at e
    rw [List.getElem?_eq_getElem (by omega), List.getElem?_eq_getElem (by omega)]
    exact congrArg some e
  · rw [List.getElem?_eq_none (by simp; omega), List.getElem?_eq_none (by simp; omega)]
theorem t0_get (R : List Int) (hl : R.length = 98) : (∀ i, i < 81 → (kakugyolaw17_ValueTurns.t0 R).getD i 0 = 0) ∧ (∀ i, i < 8 → (kakugyolaw17_ValueTurns.t0 R).getD (81 + i) 0 = R.getD (89 + i) 0) ∧ (∀ i, i < 8 → (kakugyolaw17_ValueTurns.t0 R).getD (89 + i) 0 = R.getD (81 + i) 0) ∧ (kakugyolaw17_ValueTurns.t0 R).getD 97 0 = IntKind.i8.wrap (1 - R.getD 97 0) := by
  have l1 : (List.replicate 81 (0 : Int)).length = 81 := List.length_replicate
  have l2 : ((R.drop 89).take 8).length = 8 := by simp; omega
  have l3 : ((R.drop 81).take 8).length = 8 := by simp; omega
  unfold kakugyolaw17_ValueTurns.t0
  refine ⟨fun i hi => ?_, fun i hi => ?_, fun i hi => ?_, ?_⟩
  · rw [List.append_assoc, List.getD_eq_getElem?_getD, List.getElem?_append_left (by omega), List.getElem?_replicate, if_pos hi]
    rfl
  · rw [List.append_assoc, List.getD_eq_getElem?_getD, List.getD_eq_getElem?_getD, List.getElem?_append_right (by omega), l1, List.append_assoc, List.getElem?_append_left (by omega), show 81 + i - 81 = i by omega, List.getElem?_take_of_lt hi, List.getElem?_drop, List.getD_eq_getElem?_getD]
  · rw [List.append_assoc, List.getD_eq_getElem?_getD, List.getD_eq_getElem?_getD, List.getElem?_append_right (by omega), l1, List.append_assoc, List.getElem?_append_right (by omega), l2, List.getElem?_append_left (by omega), show 89 + i - 81 - 8 = i by omega, List.getElem?_take_of_lt hi, List.getElem?_drop, List.getD_eq_getElem?_getD]
  · rw [List.getD_eq_getElem?_getD, List.getElem?_append_right (by simp; omega)]
    rw [show (List.replicate 81 (0 : Int) ++ (List.take 8 (List.drop 89 R) ++ List.take 8 (List.drop 81 R))).length = 97 by simp; omega]
    rfl
theorem turned_is (R : List Int) (hl : R.length = 98) (hv : ∀ i, i < 81 → 0 ≤ R.getD i 0 ∧ R.getD i 0 < 32) (hs : R.getD 97 0 = 0 ∨ R.getD 97 0 = 1) :
    ∃ T v, kakugyolaw17_ValueTurns.turn R 0 81 (kakugyolaw17_ValueTurns.t0 R) = some T ∧ T.length = 98 ∧ value_Of.f R = some v ∧ value_Of.f (R.set 97 (IntKind.i8.wrap (1 - R.getD 97 0))) = some (wrap64 (-v)) ∧ value_Of.f T = some v := by
  obtain ⟨g1, g2, g3, g4⟩ := t0_get R hl
  obtain ⟨v, e1, e2⟩ := other_is R hl hv hs
  obtain ⟨T, t1, t2, t3, t4⟩ := turn_is R hv 81 0 _ rfl (kakugyolaw17_ValueTurns.t0_len R hl) g1
  refine ⟨T, v, t1, t2, e1, e2, ?_⟩
  have hvt : ∀ i, i < 81 → 0 ≤ T.getD i 0 ∧ T.getD i 0 < 32 := fun i hi => by
    have h := turn_ok _ (hv (80 - i) (by omega))
    simp only [turnOk, Bool.and_eq_true, Bool.or_eq_true, decide_eq_true_eq] at h
    rw [t3 i hi]
    exact h.1.1.1.2
  have b0 : (T.drop 81).take 8 = (R.drop 89).take 8 := ext8 T R t2 hl 81 89 (by omega) (by omega) fun i hi => by rw [t4 _ (by omega), g2 i hi]
  have b1 : (T.drop 89).take 8 = (R.drop 81).take 8 := ext8 T R t2 hl 89 81 (by omega) (by omega) fun i hi => by rw [t4 _ (by omega), g3 i hi]
  have x0 (h : List Int) : X 0 T h = X 1 R h := by
    simp only [X]
    rw [sumN_rev (fun i => S 1 i (R.getD i 0)) 81, sumN_congr 81 fun i hi => by rw [t3 i hi, (S_turned i _ hi (hv (80 - i) (by omega))).1]]
  have x1 (h : List Int) : X 1 T h = X 0 R h := by
    simp only [X]
    rw [sumN_rev (fun i => S 0 i (R.getD i 0)) 81, sumN_congr 81 fun i hi => by rw [t3 i hi, (S_turned i _ hi (hv (80 - i) (by omega))).2]]
  rw [of_is R hl hv] at e1
  rw [of_is T t2 hvt, b0, b1, x0, x1, t4 97 (by omega), g4, ← e1]
  rcases hs with hs | hs
  · rw [hs, show IntKind.i8.wrap (1 - 0) = 1 by decide, if_pos rfl, if_neg (by decide)]
  · rw [hs, show IntKind.i8.wrap (1 - 1) = 0 by decide, if_neg (by decide), if_pos rfl]
-- what is clean
def kindOk (v : Int) : Bool := (kakugyoref02_Kind.f v).isSome
theorem kind_some (v : Int) : ∃ k, kakugyoref02_Kind.f v = some k := by
  unfold kakugyoref02_Kind.f
  (repeat' split) <;> exact ⟨_, rfl⟩
theorem kind_in (v k : Int) (h : kakugyoref02_Kind.f v = some k) (hk : k ≠ 0) : 0 ≤ v ∧ v < 32 := by
  unfold kakugyoref02_Kind.f at h
  by_cases h1 : v < 1
  · rw [if_pos h1] at h
    exact absurd (Option.some.inj h).symm hk
  · by_cases h2 : v > 31
    · rw [if_neg h1, if_pos h2] at h
      exact absurd (Option.some.inj h).symm hk
    · omega
theorem clean_is : ∀ (d n : Nat) (l : List Int), n + d = 81 → l.length = 98 → (∀ i, i < 81 → -128 ≤ l.getD i 0 ∧ l.getD i 0 ≤ 127) → (∀ i, i < n → 0 ≤ l.getD i 0 ∧ l.getD i 0 < 32) →
    ∃ R, kakugyoref09_Clean.go n d l = some R ∧ R.length = 98 ∧ ∀ i, i < 81 → 0 ≤ R.getD i 0 ∧ R.getD i 0 < 32
  | 0, n, l, hn, hl, _, hc => ⟨l, rfl, hl, fun i hi => hc i (by omega)⟩
  | d + 1, n, l, hn, hl, hr, hc => by
    unfold kakugyoref09_Clean.go
    have hrn := hr n (by omega)
    rw [wself _ hrn]
    obtain ⟨k, hk⟩ := kind_some (l.getD n 0)
    rw [hk, Option.bind_some]
    have hset (i : Nat) : (l.set n 0).getD i 0 = if i = n then 0 else l.getD i 0 := by
      by_cases hi : i = n
      · subst hi
        simp only [List.getD_eq_getElem?_getD, List.getElem?_set_self (show i < l.length by omega), if_pos]
        rfl
      · simp only [List.getD_eq_getElem?_getD, List.getElem?_set_ne (Ne.symm hi), if_neg hi]
    by_cases h0 : k = 0
    · rw [if_pos h0]
      refine clean_is d (n + 1) _ (by omega) (by rw [List.length_set]; exact hl) (fun i hi => ?_) (fun i hi => ?_)
      · rw [hset]
        split
        · omega
        · exact hr i hi
      · rw [hset]
        split
        · omega
        · exact hc i (by omega)
    · rw [if_neg h0]
      refine clean_is d (n + 1) _ (by omega) hl hr (fun i hi => ?_)
      by_cases hi2 : i = n
      · rw [hi2]
        exact kind_in _ k hk h0
      · exact hc i (by omega)
theorem raw_some (k : Int) : ∃ r, kakugyoref02_Raw.f 9 k = some r := by
  unfold kakugyoref02_Raw.f
  have j (b : Bool) : ∃ r, kakugyoref02_Raw.j0 9 k b = some r := by
    show ∃ r, kakugyoref02_Raw.j0 (8 + 1) k b = some r
    simp only [kakugyoref02_Raw.j0]
    (repeat' split) <;> exact ⟨_, rfl⟩
  (repeat' split) <;> exact j _
theorem total_some (n : Nat) (hn : n < 8) : ∃ t, kakugyoref02_Total.f (n : Int) = some t := by
  have h : ∀ n : Fin 8, (kakugyoref02_Total.f (n.1 : Int)).isSome = true := by decide +kernel
  exact Option.isSome_iff_exists.1 (h ⟨n, hn⟩)
theorem far_some : ∀ q : Fin 81, (kakugyoref03_Far.f 9 (-1) (q.1 : Int)).isSome = true ∧ (kakugyoref03_Far.f 9 0 (q.1 : Int)).isSome = true ∧ (kakugyoref03_Far.f 9 1 (q.1 : Int)).isSome = true := by decide +kernel
theorem side_some (v : Int) : ∃ s, kakugyoref02_Side.f v = some s ∧ (s = -1 ∨ s = 0 ∨ s = 1) := by
  unfold kakugyoref02_Side.f
  obtain ⟨k, hk⟩ := kind_some v
  rw [hk, Option.bind_some]
  by_cases h0 : k = 0
  · rw [if_pos h0]
    exact ⟨_, rfl, .inl rfl⟩
  · rw [if_neg h0]
    have h := kind_in v k hk h0
    refine ⟨_, rfl, ?_⟩
    have h1 : 0 ≤ Int.tdiv v 16 ∧ Int.tdiv v 16 ≤ 1 := by
      rw [Int.tdiv_eq_ediv_of_nonneg h.1]
      omega
    rw [wself _ (by omega)]
    omega
theorem dead_some (v : Int) (n : Nat) (hn : n < 81) : ∃ b, kakugyoref03_Dead.f 9 (wrap64 v) (n : Int) = some b := by
  unfold kakugyoref03_Dead.f
  obtain ⟨s, hs, hs3⟩ := side_some (wrap64 v)
  obtain ⟨k, hk⟩ := kind_some (wrap64 v)
  obtain ⟨f1, f2, f3⟩ := far_some ⟨n, hn⟩
  have hf : ∃ r, kakugyoref03_Far.f 9 s (n : Int) = some r := by
    rcases hs3 with rfl | rfl | rfl
    · exact Option.isSome_iff_exists.1 f1
    · exact Option.isSome_iff_exists.1 f2
    · exact Option.isSome_iff_exists.1 f3
  obtain ⟨r, hr⟩ := hf
  rw [hs, Option.bind_some, hr, Option.bind_some, hk, Option.bind_some]
  (repeat' split) <;> exact ⟨_, rfl⟩
theorem walk (cs : List Int) (w : World) (hl : cs.length = 98) (hr : ∀ z ∈ cs, (Lit.int .i8 z).wf = true) :
    Calls Try.prog 4 #[.agg (value_Of.pv cs)] w fun e w' => e = .returned (.bool true) ∧ Below w.heap.size w w' := by
  have hb : ∀ i, i < 81 → -128 ≤ cs.getD i 0 ∧ cs.getD i 0 ≤ 127 := fun i hi => by
    have e : cs.getD i 0 = cs[i]'(by omega) := by rw [List.getD_eq_getElem?_getD, List.getElem?_eq_getElem (by omega)]; rfl
    rw [e]
    exact bounds_i8 (hr _ (List.getElem_mem _))
  obtain ⟨R, h1, h2, h3⟩ := clean_is 81 0 cs rfl hl hb (fun i hi => absurd hi (by omega))
  exact kakugyolaw17_ValueTurns.turns_calls cs R w hl h1 (fun v => kind_some _) (fun v => (kind_some _).imp fun k hk => ⟨hk, raw_some k⟩) total_some dead_some (fun _ hs => turned_is R h2 h3 hs)
end Go.Proofs.Ytmoeodcmfjnihab.Pure.ValueTurns
