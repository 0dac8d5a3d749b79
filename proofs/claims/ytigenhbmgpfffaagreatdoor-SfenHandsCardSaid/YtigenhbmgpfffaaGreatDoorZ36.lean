import Derived.Test.YtigenhbmgpfffaaGreatDoorZ28
import Derived.Test.YtigenhbmgpfffaaGreatDoorZ29
import Derived.Test.YtigenhbmgpfffaaGreatDoorZ33
import Derived.Test.YtigenhbmgpfffaaGreatDoorZ34
import Derived.Test.YtigenhbmgpfffaaGreatDoorZ35
import Derived.Laws.Bits64b
import Derived.Laws.BitsAllLaws
import Derived.OpenShut
import Derived.Lib.AtoiTie
import Derived.Lib.Join
set_option linter.unusedVariables false
set_option linter.unusedSimpArgs false
namespace Go.Proofs.YtigenhbmgpfffaaGreatDoor.Pl
open Go.RowKit Go.Proofs.YtigenhbmgpfffaaGreatDoor.Pa Go.Proofs.YtigenhbmgpfffaaGreatDoorW.PrintWords Go.Proofs.YtigenhbmgpfffaaGreatDoorW.PrintLast Go.Proofs.YtigenhbmgpfffaaGreatDoorW.PrintMore
def tText (t : Nat × Nat) : List UInt8 := num (t.2 : Int) ++ nmL ((16 * (t.1 / 8) + t.1 % 8 : Nat) : Int)
def goodT (t : Nat × Nat) : Prop := t.1 < 16 ∧ 1 ≤ t.1 % 8 ∧ 1 ≤ t.2 ∧ t.2 ≤ 18
def tsText (l : List (Nat × Nat)) : List UInt8 := l.flatMap tText
def setAll (l : List (Nat × Nat)) (b : List Int) : List Int := l.foldl (fun b t => b.set t.1 (t.2 : Int)) b
theorem setAll_len : ∀ (l : List (Nat × Nat)) (b : List Int), (setAll l b).length = b.length
  | [], _ => rfl
  | t :: l, b => by
    show (setAll l (b.set t.1 (t.2 : Int))).length = _; rw [setAll_len l, List.length_set]
theorem setAll_no (i : Nat) : ∀ (l : List (Nat × Nat)) (b : List Int), (∀ t ∈ l, t.1 < b.length) → (∀ t ∈ l, t.1 ≠ i) → (setAll l b).getD i 0 = b.getD i 0
  | [], _, _, _ => rfl
  | t :: l, b, hb, h => by
    show (setAll l (b.set t.1 (t.2 : Int))).getD i 0 = _; rw [setAll_no i l _ (fun u hu => by rw [List.length_set]; exact hb u (List.mem_cons_of_mem _ hu)) (fun u hu => h u (List.mem_cons_of_mem _ hu)), getD_set _ _ _ _ (hb t (List.mem_cons_self ..)), if_neg (fun e => h t (List.mem_cons_self ..) e.symm)]
theorem setAll_yes : ∀ (l : List (Nat × Nat)) (b : List Int), (∀ t ∈ l, t.1 < b.length) → (l.map (·.1)).Nodup → ∀ t ∈ l, (setAll l b).getD t.1 0 = (t.2 : Int)
  | [], _, _, _, t, ht => by cases ht
  | u :: l, b, hb, hn, t, ht => by
    rw [List.map_cons, List.nodup_cons] at hn; show (setAll l (b.set u.1 (u.2 : Int))).getD t.1 0 = _
    have hb2 : ∀ v ∈ l, v.1 < (b.set u.1 (u.2 : Int)).length := fun v hv => by rw [List.length_set]; exact hb v (List.mem_cons_of_mem _ hv)
    rcases List.mem_cons.1 ht with rfl | ht
    · rw [setAll_no _ l _ hb2 (fun v hv e => hn.1 (List.mem_map.2 ⟨v, hv, e⟩)), getD_set _ _ _ _ (hb t (List.mem_cons_self ..)), if_pos rfl]
    · exact setAll_yes l _ hb2 hn.2 t ht
theorem hg_list (ne : Bool) (rest : List UInt8) : ∀ (l : List (Nat × Nat)) (b : List Int), (∀ t ∈ l, goodT t) → (l.map (·.1)).Nodup → (∀ t ∈ l, b.getD t.1 0 = 0) → b.length = 16 →
    hg ne (tsText l ++ rest) 0 0 b = hg ne rest 0 0 (setAll l b)
  | [], _, _, _, _, _ => rfl
  | t :: l, b, hg_, hn, hz, hb => by
    rw [List.map_cons, List.nodup_cons] at hn; obtain ⟨g1, g2, g3, g4⟩ := hg_ t (List.mem_cons_self ..)
    have e : tsText (t :: l) ++ rest = num (t.2 : Int) ++ nmL ((16 * (t.1 / 8) + t.1 % 8 : Nat) : Int) ++ (tsText l ++ rest) := by
      show (tText t ++ tsText l) ++ rest = _; rw [List.append_assoc]; rfl
    have hk : 8 * (t.1 / 8) + t.1 % 8 = t.1 := by omega
    rw [e, hg_one ne (t.1 / 8) (t.1 % 8) t.2 (by omega) g2 (by omega) g3 g4 _ b (by rw [hk]; exact hz t (List.mem_cons_self ..)), hk]; refine hg_list ne rest l _ (fun u hu => hg_ u (List.mem_cons_of_mem _ hu)) hn.2 (fun u hu => ?_) (by rw [List.length_set]; exact hb); rw [getD_set _ _ _ _ (by omega), if_neg (fun e => hn.1 (List.mem_map.2 ⟨u, hu, e⟩))]; exact hz u (List.mem_cons_of_mem _ hu)
theorem hg_dup (ne : Bool) (t : Nat × Nat) (h : goodT t) (b : List Int) (hb : b.getD t.1 0 ≠ 0) : hg ne (tText t) 0 0 b = some (b, false) := by
  obtain ⟨g1, g2, g3, g4⟩ := h; obtain ⟨c1, c2, c3⟩ := code_kind (t.1 / 8) (t.1 % 8) (by omega) g2 (by omega) (by omega); obtain ⟨m, dg, e1, e2, e3⟩ := hg_num ne t.2 g3 g4 (nmL ((16 * (t.1 / 8) + t.1 % 8 : Nat) : Int)) b; obtain ⟨_, hn⟩ := name_is _ c3; obtain ⟨n1, n2, n3⟩ := hn (by omega); obtain ⟨p1, p2⟩ := piece_is _ c3; unfold tText; rw [e1]; unfold nmL; rw [c1, if_neg (by omega), if_neg (by omega), hg, if_neg (by omega)]; rw [c1, decide_eq_false (by omega)] at n1; rw [n1, Option.bind_some, p1 20 (by omega), Option.bind_some, c1, if_neg (by omega), p2 20 (by omega), Option.bind_some, c2, if_pos (by omega), Int.toNat_natCast, Int.toNat_natCast, show t.1 / 8 * 8 + t.1 % 8 = t.1 by omega, if_pos hb]
def keys14 : List Nat := [1, 2, 3, 4, 5, 6, 7, 9, 10, 11, 12, 13, 14, 15]
def canon (p : Nat → Int) : List (Nat × Nat) := keys14.filterMap fun i => if 0 < p (81 + i) then some (i, (p (81 + i)).toNat) else none
theorem mem_canon (p : Nat → Int) (t : Nat × Nat) : t ∈ canon p ↔ t.1 ∈ keys14 ∧ 0 < p (81 + t.1) ∧ t.2 = (p (81 + t.1)).toNat := by
  unfold canon; rw [List.mem_filterMap]
  constructor
  · rintro ⟨i, hi, h⟩
    split at h
    · have := Option.some.inj h
      subst this; exact ⟨hi, by assumption, rfl⟩
    · cases h
  · rintro ⟨h1, h2, h3⟩
    exact ⟨t.1, h1, by rw [if_pos h2, ← h3]⟩
theorem canon_good (cs : List Int) (ho : Ok cs) : (∀ t ∈ canon (fun i => cs.getD i 0), goodT t) ∧ ((canon (fun i => cs.getD i 0)).map (·.1)).Nodup := by
  constructor
  · intro t ht
    obtain ⟨h1, h2, h3⟩ := (mem_canon _ t).1 ht
    have hk : ∀ i ∈ keys14, i < 16 ∧ 1 ≤ i % 8 := by decide
    obtain ⟨k1, k2⟩ := hk _ h1; have := (ho.hand t.1 k1).2; exact ⟨k1, k2, by omega, by omega⟩
  · have hs : ((canon (fun i => cs.getD i 0)).map (·.1)).Sublist keys14 := by
      unfold canon; generalize keys14 = ks
      induction ks with
      | nil => exact List.Sublist.slnil
      | cons i ks ih =>
        rw [List.filterMap_cons]; dsimp only
        by_cases h : 0 < cs.getD (81 + i) 0
        · rw [if_pos h]; exact ih.cons_cons _
        · rw [if_neg h]; exact ih.cons _
    exact hs.nodup (by decide)
theorem tText_plain (t : Nat × Nat) (h : goodT t) : Plain (tText t) ∧ (tText t).length ≤ t.2 ∧ (45 : UInt8) ∉ tText t ∧ tText t ≠ [] := by
  obtain ⟨g1, g2, g3, g4⟩ := h; obtain ⟨h1, h2⟩ := num_len t.2 g3 g4 (t.1 / 8) (t.1 % 8) (by omega) g2 (by omega); obtain ⟨c1, c2, c3⟩ := code_kind (t.1 / 8) (t.1 % 8) (by omega) g2 (by omega) (by omega)
  have hnm : nmL ((16 * (t.1 / 8) + t.1 % 8 : Nat) : Int) = [ltr ((16 * (t.1 / 8) + t.1 % 8 : Nat) : Int)] := by unfold nmL; rw [c1, if_neg (by omega), if_neg (by omega)]
  obtain ⟨_, n2, _⟩ := (name_is _ c3).2 (by omega); refine ⟨h2, h1, fun hm => ?_, by unfold tText; rw [hnm]; simp⟩; unfold tText at hm
  rcases List.mem_append.1 hm with hm | hm
  · rw [num_small t.2 g3 g4] at hm
    split at hm
    · cases hm
    · split at hm
      · have := List.mem_singleton.1 hm
        have h2 := ofNat_dig t.2 (by omega); rw [← this] at h2; exact absurd h2 (by show ¬ 45 = 48 + t.2; omega)
      · rcases List.mem_cons.1 hm with hm | hm
        · exact absurd hm (by decide)
        · have := List.mem_singleton.1 hm
          have h2 := ofNat_dig (t.2 % 10) (by omega); rw [← this] at h2; exact absurd h2 (by show ¬ 45 = 48 + t.2 % 10; omega)
  · rw [hnm] at hm
    have := List.mem_singleton.1 hm; rw [← this] at n2; exact absurd n2 (by decide)
theorem ts_plain : ∀ l : List (Nat × Nat), (∀ t ∈ l, goodT t) → Plain (tsText l) ∧ (45 : UInt8) ∉ tsText l ∧ (l ≠ [] → tsText l ≠ [])
  | [], _ => ⟨Plain.nil, by simp [tsText], fun h => absurd rfl h⟩
  | t :: l, h => by
    obtain ⟨a1, _, a2, a3⟩ := tText_plain t (h t (List.mem_cons_self ..)); obtain ⟨b1, b2, _⟩ := ts_plain l (fun u hu => h u (List.mem_cons_of_mem _ hu)); have e : tsText (t :: l) = tText t ++ tsText l := rfl; rw [e]; exact ⟨a1.app b1, fun hm => (List.mem_append.1 hm).elim a2 b2, fun _ hn => a3 (List.append_eq_nil_iff.1 hn).1⟩
theorem hands_any (cs : List Int) (ho : Ok cs) (l : List (Nat × Nat)) (hl : l.Perm (canon (fun i => cs.getD i 0))) (hne : l ≠ []) :
    sfen_hands.f (mkB (tsText l)) = some ((List.range 16).map fun i => cs.getD (81 + i) 0, true) ∧ ∀ t ∈ l, ∃ B, sfen_hands.f (mkB (tsText l ++ tText t)) = some (B, false) := by
  obtain ⟨c1, c2⟩ := canon_good cs ho; have g : ∀ t ∈ l, goodT t := fun t ht => c1 t (hl.mem_iff.1 ht); have hnd : (l.map (·.1)).Nodup := (hl.map _).nodup_iff.2 c2; obtain ⟨p1, p2, p3⟩ := ts_plain l g
  have hz : ∀ i : Nat, i < 16 → sfen_hands.z16.getD i 0 = 0 := fun i hi => by
    unfold sfen_hands.z16; rw [List.getD_eq_getElem?_getD, List.getElem?_replicate, if_pos hi]; rfl
  have hb16 : ∀ t ∈ l, t.1 < sfen_hands.z16.length := fun t ht => (g t ht).1
  have n45 : ∀ m : List UInt8, (45 : UInt8) ∉ m → ¬ (m == [45]) = true := fun m hm e => by
    rw [beq_iff_eq] at e; exact hm (by rw [e]; exact List.mem_singleton.2 rfl)
  refine ⟨?_, fun t ht => ⟨setAll l sfen_hands.z16, ?_⟩⟩
  · rw [hands_is _ _ (mkB_toList _) p1.ascii, if_neg (n45 _ p2)]
    have := hg_list (!(tsText l == [])) [] l sfen_hands.z16 g hnd (fun t ht => hz _ (g t ht).1) rfl; rw [List.append_nil] at this; rw [this]
    have hb : (!(tsText l == [])) = true := by
      rw [Bool.not_eq_true', Bool.eq_false_iff]; intro en; exact p3 hne (beq_iff_eq.1 en)
    have e : setAll l sfen_hands.z16 = (List.range 16).map fun i => cs.getD (81 + i) 0 := by
      apply ext_getD
      · rw [setAll_len]; simp [sfen_hands.z16]
      · intro i hi
        rw [setAll_len] at hi; have hi : i < 16 := hi
        have hr : ((List.range 16).map fun i => cs.getD (81 + i) 0).getD i 0 = cs.getD (81 + i) 0 := by
          rw [List.getD_eq_getElem?_getD, List.getElem?_map, List.getElem?_range hi]; rfl
        rw [hr]; have hh := (ho.hand i hi).1
        by_cases e0 : cs.getD (81 + i) 0 = 0
        · rw [setAll_no i l _ hb16 (fun t ht e => ?_), hz i hi, e0]
          have := (mem_canon _ t).1 (hl.mem_iff.1 ht); rw [e] at this; have h2 := this.2.1; simp only [e0] at h2; omega
        · have hk : i ∈ keys14 := by
            have hall : ∀ i, i < 16 → i ∈ keys14 ∨ i = 0 ∨ i = 8 := by decide
            rcases hall i hi with h | h | h
            · exact h
            · subst h; exact absurd ho.none0.1 e0
            · subst h; exact absurd ho.none0.2 e0
          have hm : (i, (cs.getD (81 + i) 0).toNat) ∈ l := hl.mem_iff.2 ((mem_canon _ _).2 ⟨hk, by show 0 < cs.getD (81 + i) 0; omega, rfl⟩); have := setAll_yes l sfen_hands.z16 hb16 hnd _ hm; rw [this]; show (((cs.getD (81 + i) 0).toNat : Nat) : Int) = _; omega
    rw [hb, e]; rfl
  · obtain ⟨q1, _, q2, _⟩ := tText_plain t (g t ht)
    rw [hands_is _ _ (mkB_toList _) (p1.app q1).ascii, if_neg (n45 _ (fun hm => (List.mem_append.1 hm).elim p2 q2)), hg_list _ (tText t) l sfen_hands.z16 g hnd (fun u hu => hz _ (g u hu).1) rfl, hg_dup _ t (g t ht) _ (by
      rw [setAll_yes l sfen_hands.z16 hb16 hnd t ht]; have := (g t ht).2.2.1
      omega)]
theorem digits_ok (n : Nat) (h2 : 2 ≤ n) (h18 : n ≤ 18) : kakugyolaw13_digits.f (n : Int) = some (mkB (num (n : Int))) := by
  have h : ∀ m : Fin 17, kakugyolaw13_digits.f (((m.1 + 2 : Nat)) : Int) = some (mkB (num (((m.1 + 2 : Nat)) : Int))) := by decide +kernel
  have := h ⟨n - 2, by omega⟩; simp only [show n - 2 + 2 = n by omega] at this; exact this
theorem digits_small (n : Int) (h0 : 0 ≤ n) (h1 : n ≤ 127) (d : ByteArray) (h : kakugyolaw13_digits.f n = some d) : d.size ≤ 2 := by
  have hh : ∀ m : Fin 128, ∀ d ∈ kakugyolaw13_digits.f ((m.1 : Nat) : Int), d.size ≤ 2 := by decide +kernel
  have := hh ⟨n.toNat, by omega⟩ d; simp only [show ((n.toNat : Nat) : Int) = n by omega] at this; exact this h
theorem letter_ok (m : Nat) (hm : m < 16) (h0 : m % 8 ≠ 0) : kakugyolaw13_SfenHands.letter m = mkB (nmL ((16 * (m / 8) + m % 8 : Nat) : Int)) := by
  have h : ∀ m : Fin 16, m.1 % 8 ≠ 0 → kakugyolaw13_SfenHands.letter m.1 = mkB (nmL ((16 * (m.1 / 8) + m.1 % 8 : Nat) : Int)) := by decide +kernel
  exact h ⟨m, hm⟩ h0
theorem part_ok (a : List Int) (ho : Ok a) (m : Nat) (hm : m < 16) (h0 : m % 8 ≠ 0) (hp : 0 < a.getD (81 + m) 0) : kakugyolaw13_SfenHands.partOf a m = some (mkB (tText (m, (a.getD (81 + m) 0).toNat))) := by
  have hh := ho.hand m hm
  obtain ⟨n, hn⟩ : ∃ n : Nat, a.getD (81 + m) 0 = (n : Int) := ⟨(a.getD (81 + m) 0).toNat, by omega⟩
  unfold kakugyolaw13_SfenHands.partOf tText; rw [hn] at hh hp ⊢; rw [letter_ok m hm h0, Int.toNat_natCast]
  by_cases h1 : 1 < (n : Int)
  · rw [if_pos h1, digits_ok n (by omega) (by omega), Option.bind_some, mkB_app]
  · rw [if_neg h1]
    have : n = 1 := by omega
    subst this
    rfl
theorem go_is (a : List Int) (ho : Ok a) : ∀ (d m : Nat) (acc : List ByteArray), m + d ≤ 16 →
    kakugyolaw13_SfenHands.go a m d acc = some (acc ++ ((((List.range' m d).filter (fun i => decide (i % 8 ≠ 0))).filterMap fun i => if 0 < a.getD (81 + i) 0 then some (i, (a.getD (81 + i) 0).toNat) else none)).map fun t => mkB (tText t))
  | 0, m, acc, _ => by
    unfold kakugyolaw13_SfenHands.go
    simp
  | d + 1, m, acc, hd => by
    unfold kakugyolaw13_SfenHands.go; rw [List.range'_succ]
    by_cases h0 : m % 8 = 0
    · rw [if_pos (.inl h0), go_is a ho d (m + 1) acc (by omega), List.filter_cons_of_neg (by simp [h0])]
    · rw [List.filter_cons_of_pos (by simp [h0])]
      by_cases hp : 0 < a.getD (81 + m) 0
      · rw [if_neg (by rintro (h | h); exact h0 h; exact h hp), part_ok a ho m (by omega) h0 hp, Option.bind_some, go_is a ho d (m + 1) _ (by omega), List.filterMap_cons_some (b := (m, (a.getD (81 + m) 0).toNat)) (by rw [if_pos hp]), List.map_cons, List.append_assoc, List.singleton_append]
      · rw [if_pos (.inr hp), go_is a ho d (m + 1) acc (by omega), List.filterMap_cons_none (by rw [if_neg hp])]
theorem keys_is : (List.range' 0 16).filter (fun i => decide (i % 8 ≠ 0)) = keys14 := by decide
theorem go_canon (a : List Int) (ho : Ok a) : kakugyolaw13_SfenHands.go a 0 16 [] = some ((canon (fun i => a.getD i 0)).map fun t => mkB (tText t)) := by
  rw [go_is a ho 16 0 [] (by omega), keys_is]; rfl
theorem perm_pre {α β : Type} (f : α → β) {l m : List β} (h : l.Perm m) : ∀ c : List α, m = c.map f → ∃ l' : List α, l'.Perm c ∧ l'.map f = l := by
  induction h with
  | nil => intro c hc; exact ⟨[], by rw [List.map_eq_nil_iff.1 hc.symm], rfl⟩
  | cons x _ ih =>
    intro c hc
    match c, hc with
    | y :: c', hc =>
      rw [List.map_cons, List.cons.injEq] at hc; obtain ⟨l', h1, h2⟩ := ih c' hc.2; exact ⟨y :: l', h1.cons y, by rw [List.map_cons, h2, ← hc.1]⟩
  | swap x y l =>
    intro c hc
    match c, hc with
    | u :: v :: c', hc =>
      rw [List.map_cons, List.map_cons, List.cons.injEq, List.cons.injEq] at hc; exact ⟨v :: u :: c', .swap .., by rw [List.map_cons, List.map_cons, ← hc.1, ← hc.2.1, ← hc.2.2]⟩
  | trans _ _ ih1 ih2 =>
    intro c hc; obtain ⟨l2, h1, h2⟩ := ih2 c hc; obtain ⟨l1, h3, h4⟩ := ih1 l2 h2.symm; exact ⟨l1, h3.trans h1, h4⟩
theorem join_parts (l : List (Nat × Nat)) : (⟨(Lib.join ((l.map fun t => mkB (tText t)).map (·.data.toList)) (⟨#[]⟩ : ByteArray).data.toList).toArray⟩ : ByteArray) = mkB (tsText l) := by
  have h : Lib.join ((l.map fun t => mkB (tText t)).map (·.data.toList)) (⟨#[]⟩ : ByteArray).data.toList = tsText l := by
    rw [List.map_map]
    cases l with
    | nil => rfl
    | cons t l =>
      rw [List.map_cons, Lib.join_cons]; show tText t ++ ((l.map _).map ([] ++ ·)).flatten = tText t ++ tsText l
      congr 1
      unfold tsText; rw [List.flatMap_def, List.map_map]
      congr 1
  rw [h]; rfl
theorem tText_len (t : Nat × Nat) (h : goodT t) : (tText t).length ≤ t.2 ∧ (tText t).length ≤ 4 := by
  obtain ⟨g1, g2, g3, g4⟩ := h; refine ⟨(num_len t.2 g3 g4 (t.1 / 8) (t.1 % 8) (by omega) g2 (by omega)).1, ?_⟩; have e1 := nmL_len ((16 * (t.1 / 8) + t.1 % 8 : Nat) : Int)
  have e2 : (num (t.2 : Int)).length ≤ 2 := by
    rw [num_small t.2 g3 g4]
    repeat' split
    all_goals simp
  unfold tText; rw [List.length_append]; omega
theorem canon_len (p : Nat → Int) : ∀ ks : List Nat, (∀ i ∈ ks, i < 16 ∧ 1 ≤ i % 8 ∧ 0 ≤ p (81 + i) ∧ p (81 + i) ≤ 18) →
    ((tsText (ks.filterMap fun i => if 0 < p (81 + i) then some (i, (p (81 + i)).toNat) else none)).length : Int) ≤ (ks.map fun i => p (81 + i)).sum
  | [], _ => by simp [tsText]
  | i :: ks, h => by
    obtain ⟨h1, h2, h3, h4⟩ := h i (List.mem_cons_self ..); have ih := canon_len p ks (fun j hj => h j (List.mem_cons_of_mem _ hj)); rw [List.map_cons, List.sum_cons]
    by_cases hp : 0 < p (81 + i)
    · rw [List.filterMap_cons_some (b := (i, (p (81 + i)).toNat)) (by rw [if_pos hp])]
      have e : ∀ l, (tsText ((i, (p (81 + i)).toNat) :: l)).length = (tText (i, (p (81 + i)).toNat)).length + (tsText l).length := fun l => by
        show (tText _ ++ tsText l).length = _; rw [List.length_append]
      rw [e]; have := (tText_len (i, (p (81 + i)).toNat) ⟨h1, h2, by show 1 ≤ (p (81 + i)).toNat; omega, by show (p (81 + i)).toNat ≤ 18; omega⟩).1; have this : (tText (i, (p (81 + i)).toNat)).length ≤ (p (81 + i)).toNat := this; generalize (tText (i, (p (81 + i)).toNat)).length = u at *; generalize (tsText _).length = v at *; generalize (List.map (fun i => p (81 + i)) ks).sum = z at *; omega
    · rw [List.filterMap_cons_none (by rw [if_neg hp])]
      generalize (tsText _).length = v at *; generalize (List.map (fun i => p (81 + i)) ks).sum = z at *; omega
theorem ts_len (a : List Int) (ho : Ok a) : (tsText (canon (fun i => a.getD i 0))).length ≤ 40 := by
  have h := canon_len (fun i => a.getD i 0) keys14 (fun i hi => by
    have hk : ∀ i ∈ keys14, i < 16 ∧ 1 ≤ i % 8 := by decide
    obtain ⟨k1, k2⟩ := hk i hi
    exact ⟨k1, k2, (ho.hand i k1).1, (ho.hand i k1).2⟩)
  have hc := ho.count
  have e : (keys14.map fun i => (fun i => a.getD i 0) (81 + i)).sum = (a.getD 82 0 + a.getD 83 0 + a.getD 84 0 + a.getD 85 0 + a.getD 86 0 + a.getD 87 0 + a.getD 88 0) + (a.getD 90 0 + a.getD 91 0 + a.getD 92 0 + a.getD 93 0 + a.getD 94 0 + a.getD 95 0 + a.getD 96 0) := by
    simp only [keys14, List.map_cons, List.map_nil, List.sum_cons, List.sum_nil, Nat.reduceAdd]; omega
  rw [e] at h; have h2 : ((tsText (canon (fun i => a.getD i 0))).length : Int) ≤ _ := h; generalize (tsText (canon (fun i => a.getD i 0))).length = v at *; generalize nB a (fun x => decide (kindT x ≠ 0)) = w at *; generalize (a.getD 82 0 + a.getD 83 0 + a.getD 84 0 + a.getD 85 0 + a.getD 86 0 + a.getD 87 0 + a.getD 88 0) = y at *; generalize (a.getD 90 0 + a.getD 91 0 + a.getD 92 0 + a.getD 93 0 + a.getD 94 0 + a.getD 95 0 + a.getD 96 0) = z at *; omega
theorem hands_law (a : List Int) (hla : a.length = 98) (hpa : ∀ i, (Lit.int .i8 (a.getD i 0)).wf = true) : ∃ PS : List ByteArray, ((mkB (printT a 1)).toList ≠ [] → kakugyolaw13_SfenHands.go a 0 16 [] = some PS) ∧
    (PS ≠ [] → (mkB (printT a 1)).size ≤ 1000 ∧ 1 ≤ Lib.countB (mkB (printT a 1)) ⟨#[32]⟩ ∧ ∃ (w0 w1 : ByteArray) (rest : List ByteArray), Lib.splitB ⟨#[32]⟩ 0 (Lib.countB (mkB (printT a 1)) ⟨#[32]⟩) (mkB (printT a 1)) = w0 :: w1 :: rest ∧ w0.size ≤ 1000 ∧ w1.size ≤ 1000 ∧ ∀ l : List ByteArray, l.Perm PS →
      (⟨(Lib.join (l.map (·.data.toList)) (⟨#[]⟩ : ByteArray).data.toList).toArray⟩ : ByteArray).size ≤ 1000 ∧ (l.getD 0 ByteArray.empty).size ≤ 10 ∧ ∃ n1 : Int, sfen_Parse.f (w0 ++ ⟨#[32]⟩ ++ w1 ++ ⟨#[32]⟩ ++ ⟨(Lib.join (l.map (·.data.toList)) (⟨#[]⟩ : ByteArray).data.toList).toArray⟩ ++ ⟨#[32, 49]⟩) = some (a, n1, 0) ∧
      ∃ (cs2 : List Int) (n2 : Int), sfen_Parse.f (w0 ++ ⟨#[32]⟩ ++ w1 ++ ⟨#[32]⟩ ++ ⟨(Lib.join (l.map (·.data.toList)) (⟨#[]⟩ : ByteArray).data.toList).toArray⟩ ++ l.getD 0 ByteArray.empty ++ ⟨#[32, 49]⟩) = some (cs2, n2, 70)) := by
  by_cases hne : (mkB (printT a 1)).toList = []
  · exact ⟨[], fun h => absurd hne h, fun h => absurd rfl h⟩
  have hne' := hne; rw [mkB_list] at hne'; obtain ⟨h0, _, _, he⟩ := printT_ne a 1 hne'; have ho := ok_of a h0; refine ⟨_, fun _ => go_canon a ho, fun hps => ?_⟩; have hfl := front_len a ho; obtain ⟨htl, hpl⟩ := text_len a ho; have hrk := ranks_back a hla hpa ho; have hrp := (rows_plain (fun i => a.getD i 0) hpa 9 0).no; have hip := itoa_plain 1 (by decide) (by decide)
  obtain ⟨s, hs, hsi⟩ : ∃ s, sideL (fun i => a.getD i 0) = [s] ∧ s ≠ 32 := by
    rcases sideL_is (fun i => a.getD i 0) with h | h <;> rw [h]
    · exact ⟨98, rfl, by decide⟩
    · exact ⟨119, rfl, by decide⟩
  have hpt := parse_text a hla hpa h0 1 (by decide) (by decide)
  have hfe : printT a 1 = rowsT (fun i => a.getD i 0) 0 9 ++ 32 :: ([s] ++ 32 :: (handsT (fun i => a.getD i 0) ++ 32 :: Lib.itoa 1)) := by
    rw [he, text_front]; unfold front; rw [hs]; simp only [List.append_assoc, List.cons_append, List.nil_append]
  have hone : Lib.itoa 1 = [49] := itoa_one; rw [hone] at hfe hip; rw [← he, hfe] at hpt; rw [hfe]; clear hfe he hne hne' hfl hs; have hc40 := ts_len a ho; have hhb := hands_back a ho
  have hpR : ∀ H : List UInt8, (32 : UInt8) ∉ H → H.length ≤ 46 → sfen_Parse.f (mkB (rowsT (fun i => a.getD i 0) 0 9 ++ 32 :: ([s] ++ 32 :: (H ++ 32 :: [49])))) = _ := fun H h1 h2 => parse4 _ [s] H [49] hrp (by simpa using fun e => hsi e.symm) h1 hip.no (by
    simp only [List.length_append, List.length_cons, List.length_nil]; generalize (rowsT (fun i => a.getD i 0) 0 9).length = u at *; generalize (handsT (fun i => a.getD i 0)).length = v at *
    omega)
  have hpH := parse4 (rowsT (fun i => a.getD i 0) 0 9) [s] (handsT (fun i => a.getD i 0)) [49] hrp (by simpa using fun e => hsi e.symm) hpl.no hip.no (by
    simp only [List.length_append, List.length_cons, List.length_nil]; generalize (rowsT (fun i => a.getD i 0) 0 9).length = u at *; generalize (handsT (fun i => a.getD i 0)).length = v at *
    omega)
  obtain ⟨e1, e2⟩ := split4 (rowsT (fun i => a.getD i 0) 0 9) [s] (handsT (fun i => a.getD i 0)) [49] hrp (by simpa using fun e => hsi e.symm) hpl.no hip.no; have hspq : (⟨#[32]⟩ : ByteArray) = sfen_Parse.sp := rfl; rw [hspq, e1, e2, ← hspq]; refine ⟨?_, by decide, _, _, _, rfl, ?_, ?_, fun l hl => ?_⟩
  · rw [mkB_size]
    simp only [List.length_append, List.length_cons, List.length_nil]; generalize (rowsT (fun i => a.getD i 0) 0 9).length = u at *; generalize (handsT (fun i => a.getD i 0)).length = v at *; omega
  · rw [mkB_size]
    generalize (rowsT (fun i => a.getD i 0) 0 9).length = u at *; generalize (handsT (fun i => a.getD i 0)).length = v at *; omega
  · rw [mkB_size]; show 1 ≤ 1000; omega
  · obtain ⟨l', hp, rfl⟩ := perm_pre _ hl _ rfl
    have hlen : (tsText l').length ≤ 40 := by
      have := (hp.flatMap_right tText).length_eq; show (l'.flatMap tText).length ≤ 40; rw [this]; exact hc40
    have hgood : ∀ t ∈ l', goodT t := fun t ht => (canon_good a ho).1 t (hp.mem_iff.1 ht)
    have hnil : l' ≠ [] := fun e => hps (by
      rw [e] at hp
      rw [hp.nil_eq.symm]; rfl)
    obtain ⟨q1, q2⟩ := hands_any a ho l' hp hnil; obtain ⟨p1, p2, p3⟩ := ts_plain l' hgood; rw [join_parts]
    match l', hnil with
    | t :: r, _ =>
      have ht := hgood t (List.mem_cons_self ..); have htl := (tText_len t ht).2; obtain ⟨t1, _, _⟩ := tText_plain t ht; show (mkB (tsText (t :: r))).size ≤ 1000 ∧ (mkB (tText t)).size ≤ 10 ∧ ∃ n1 : Int, sfen_Parse.f (mkB _ ++ mkB [32] ++ mkB [s] ++ mkB [32] ++ mkB (tsText (t :: r)) ++ mkB [32, 49]) = some (a, n1, 0) ∧ ∃ (cs2 : List Int) (n2 : Int), sfen_Parse.f (mkB _ ++ mkB [32] ++ mkB [s] ++ mkB [32] ++ mkB (tsText (t :: r)) ++ mkB (tText t) ++ mkB [32, 49]) = some (cs2, n2, 70); obtain ⟨B, hB⟩ := q2 t (List.mem_cons_self ..); clear q2; generalize tsText (t :: r) = J at *; generalize tText t = D at *
      have E1 : rowsT (fun i => a.getD i 0) 0 9 ++ [32] ++ [s] ++ [32] ++ J ++ [32, 49] = rowsT (fun i => a.getD i 0) 0 9 ++ 32 :: ([s] ++ 32 :: (J ++ 32 :: [49])) := by simp only [List.append_assoc, List.cons_append, List.nil_append]
      have E2 : rowsT (fun i => a.getD i 0) 0 9 ++ [32] ++ [s] ++ [32] ++ J ++ D ++ [32, 49] = rowsT (fun i => a.getD i 0) 0 9 ++ 32 :: ([s] ++ 32 :: ((J ++ D) ++ 32 :: [49])) := by simp only [List.append_assoc, List.cons_append, List.nil_append]
      rw [mkB_size, mkB_size]; simp only [mkB_app]; rw [E1, E2]; refine ⟨by omega, by omega, 1, ?_, ?_⟩
      · rw [hpR J p1.no (by omega), q1, ← hhb, ← hpH]
        exact hpt
      · refine ⟨sfen_Parse.zl, 0, ?_⟩
        rw [hpR (J ++ D) (p1.app t1).no (by rw [List.length_append]; omega), hB, hrk]
        have hbad : ∀ m, sfen_Parse.bad m true false = true := fun m => by
          unfold sfen_Parse.bad
          simp
        simp only [Option.bind_some]; rw [if_pos (hbad _)]
end Go.Proofs.YtigenhbmgpfffaaGreatDoor.Pl
