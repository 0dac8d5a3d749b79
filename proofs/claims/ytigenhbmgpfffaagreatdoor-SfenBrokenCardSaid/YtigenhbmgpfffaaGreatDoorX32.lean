import Derived.Test.YtigenhbmgpfffaaGreatDoorX29
import Derived.Test.YtigenhbmgpfffaaGreatDoorX31
import Derived.Laws.Bits64b
import Derived.Laws.BitsAllLaws
import Derived.OpenShut
import Derived.Lib.AtoiTie
set_option linter.unusedVariables false
set_option linter.unusedSimpArgs false
namespace Go.Proofs.YtigenhbmgpfffaaGreatDoor.Pl
open Go.RowKit Go.Proofs.YtigenhbmgpfffaaGreatDoor.Pa Go.Proofs.YtigenhbmgpfffaaGreatDoorW.PrintWords Go.Proofs.YtigenhbmgpfffaaGreatDoorW.PrintLast Go.Proofs.YtigenhbmgpfffaaGreatDoorW.PrintMore
theorem strOf_one (n : Int) : strOfNums [n] = mkB [UInt8.ofNat n.toNat] := rfl
theorem sp_is : (⟨#[32]⟩ : ByteArray) = mkB [32] := rfl
theorem mkB_drop (a : List UInt8) (n m : Nat) (hm : m = a.length) : (mkB a).extract n m = mkB (a.drop n) := eqB (by
  have e : m = (mkB a).size := by rw [mkB_size, hm]
  rw [e, Lib.extract_to_end, mkB_toList])
theorem count_at (l : List UInt8) (i : Nat) (hi : i < l.length) (h : l[i]'hi = 32) : (l.take i).count 32 + (l.drop i).count 32 = l.count 32 ∧ 1 ≤ (l.drop i).count 32 := by
  refine ⟨by rw [← List.count_append, List.take_append_drop], ?_⟩
  rw [List.drop_eq_getElem_cons hi, h, List.count_cons_self]
  omega
theorem broken_law (a : List Int) (hla : a.length = 98) (hpa : ∀ i, (Lit.int .i8 (a.getD i 0)).wf = true) (turn : Int) (ht0 : 0 ≤ turn) (ht9 : turn ≤ 255) :
    (mkB (printT a 7)).toList ≠ [] → (mkB (printT a 7)).size ≤ 150 ∧ (∃ j : Nat, j < (mkB (printT a 7)).size ∧ bt (mkB (printT a 7)) j = 32) ∧
      (∀ i : Nat, i < (mkB (printT a 7)).size → bt (mkB (printT a 7)) i = 32 → (∃ cs, sfen_Parse.f ((mkB (printT a 7)).extract 0 i) = some (cs, 0, 70)) ∧ (∃ cs, sfen_Parse.f ((mkB (printT a 7)).extract 0 i ++ ⟨#[32]⟩ ++ (mkB (printT a 7)).extract i (mkB (printT a 7)).size) = some (cs, 0, 70))) ∧
      (∀ i : Nat, i < (mkB (printT a 7)).size → bt (mkB (printT a 7)) i = 32 → (∀ j : Nat, j < i → bt (mkB (printT a 7)) j ≠ 32) → i + 2 ≤ (mkB (printT a 7)).size ∧ ∃ cs n e, sfen_Parse.f ((mkB (printT a 7)).extract 0 (i + 1) ++ strOfNums [turn] ++ (mkB (printT a 7)).extract (i + 2) (mkB (printT a 7)).size) = some (cs, n, e) ∧ (turn = 98 ∨ turn = 119 ∨ e = 70)) := by
  rw [mkB_list]
  intro hne
  obtain ⟨h0, _, _, he⟩ := printT_ne a 7 hne
  have ho := ok_of a h0
  have hfl := front_len a ho
  have hil := itoa_len 7 (by decide) (by decide)
  have hip := itoa_plain 7 (by decide) (by decide)
  have hcf := front_count a hpa ho
  obtain ⟨_, hpl⟩ := text_len a ho
  have hrk := ranks_back a hla hpa ho
  have hhd := hands_back a ho
  have hrp := (rows_plain (fun i => a.getD i 0) hpa 9 0).no
  have hat := atoi_itoa 7 (by decide) (by decide)
  obtain ⟨s, hs⟩ : ∃ s, sideL (fun i => a.getD i 0) = [s] ∧ s ≠ 32 := by
    rcases sideL_is (fun i => a.getD i 0) with h | h <;> rw [h]
    · exact ⟨98, rfl, by decide⟩
    · exact ⟨119, rfl, by decide⟩
  have hfe : front (fun i => a.getD i 0) = rowsT (fun i => a.getD i 0) 0 9 ++ 32 :: s :: 32 :: (handsT (fun i => a.getD i 0) ++ [32]) := by unfold front; rw [hs.1]; rfl
  rw [he, text_front]
  have hlenL : (front (fun i => a.getD i 0) ++ Lib.itoa 7).length ≤ 150 := by rw [List.length_append]; omega
  have hcntL : (front (fun i => a.getD i 0) ++ Lib.itoa 7).count 32 = 3 := by rw [List.count_append, hcf, List.count_eq_zero_of_not_mem hip.no]
  have hL : front (fun i => a.getD i 0) ++ Lib.itoa 7 = rowsT (fun i => a.getD i 0) 0 9 ++ 32 :: s :: 32 :: (handsT (fun i => a.getD i 0) ++ 32 :: Lib.itoa 7) := by
    rw [hfe]
    simp only [List.append_assoc, List.cons_append, List.nil_append]
  rw [hL] at hlenL hcntL ⊢
  clear hL hfe hcf hfl
  generalize rowsT (fun i => a.getD i 0) 0 9 = R at *
  generalize handsT (fun i => a.getD i 0) = Hd at *
  generalize hLd : R ++ 32 :: s :: 32 :: (Hd ++ 32 :: Lib.itoa 7) = L at *
  rw [mkB_size]
  refine ⟨hlenL, ?_, fun i hi hb => ?_, fun i hi hb hj => ?_⟩
  · refine ⟨R.length, by rw [← hLd]; simp, ?_⟩
    rw [bt_mk L R.length (by rw [← hLd]; simp)]
    simp only [← hLd]
    rw [List.getElem_append_right (Nat.le_refl _)]
    simp
  · rw [bt_mk L i hi] at hb
    have hb' : L[i]'hi = 32 := UInt8.toNat_inj.1 (by show _ = 32; omega)
    obtain ⟨c1, c2⟩ := count_at L i hi hb'
    have l1 : (L.take i).length ≤ 150 := by rw [List.length_take]; omega
    refine ⟨⟨sfen_Parse.zl, ?_⟩, ⟨sfen_Parse.zl, ?_⟩⟩
    · rw [mkB_take, parse_few _ (by omega) (by omega)]
    · rw [mkB_take, mkB_drop L i _ rfl, sp_is, mkB_app, mkB_app, parse_few]
      · simp only [List.length_append, List.length_drop, List.length_take, List.length_cons, List.length_nil]; omega
      · simp only [List.count_append, List.count_cons_self, List.count_nil]; omega
  · rw [bt_mk L i hi] at hb
    have hb' : L[i]'hi = 32 := UInt8.toNat_inj.1 (by show _ = 32; omega)
    have hiR : i = R.length := by
      by_cases h1 : i < R.length
      · exfalso
        have : L[i]'hi = R[i]'h1 := by simp only [← hLd]; rw [List.getElem_append_left h1]
        rw [hb'] at this
        exact hrp (this ▸ List.getElem_mem h1)
      · by_cases h2 : R.length < i
        · exfalso
          refine hj R.length h2 ?_
          rw [bt_mk L R.length (by omega)]
          simp only [← hLd]
          rw [List.getElem_append_right (Nat.le_refl _)]
          simp
        · omega
    subst hiR
    have t1 : L.take (R.length + 1) = R ++ [32] := by
      rw [← hLd, List.take_append, List.take_of_length_le (by omega), show R.length + 1 - R.length = 1 by omega]; rfl
    have t2 : L.drop (R.length + 2) = 32 :: (Hd ++ 32 :: Lib.itoa 7) := by
      rw [← hLd, List.drop_append, List.drop_eq_nil_of_le (by omega), show R.length + 2 - R.length = 2 by omega]; rfl
    have hLl : L.length = R.length + (3 + (Hd.length + (1 + (Lib.itoa 7).length))) := by rw [← hLd]; simp; omega
    refine ⟨by omega, ?_⟩
    rw [mkB_take, mkB_drop L _ _ rfl, t1, t2, strOf_one, mkB_app, mkB_app]
    obtain ⟨b, hbd⟩ : ∃ b, UInt8.ofNat turn.toNat = b := ⟨_, rfl⟩
    have hbt : (b.toNat : Int) = turn := by
      rw [← hbd, UInt8.toNat_ofNat']; omega
    rw [hbd]
    have eT : R ++ [32] ++ [b] ++ 32 :: (Hd ++ 32 :: Lib.itoa 7) = R ++ 32 :: ([b] ++ 32 :: (Hd ++ 32 :: Lib.itoa 7)) := by simp only [List.append_assoc, List.cons_append, List.nil_append]
    rw [eT]
    have hlenT : (R ++ 32 :: ([b] ++ 32 :: (Hd ++ 32 :: Lib.itoa 7))).length ≤ 200 := by
      simp only [List.length_append, List.length_cons, List.length_nil]; omega
    by_cases h32 : b = 32
    · refine ⟨sfen_Parse.zl, 0, 70, ?_, .inr (.inr rfl)⟩
      rw [parse_few _ hlenT]
      subst h32
      simp only [List.count_append, List.count_cons_self, List.count_nil]
      omega
    · rw [parse4 R [b] Hd (Lib.itoa 7) hrp (by simpa using fun e => h32 e.symm) hpl.no hip.no hlenT, hrk, Option.bind_some, hhd, Option.bind_some]
      dsimp only
      by_cases hbad : sfen_Parse.bad (mkB [b]) true true = true
      · rw [if_pos hbad]
        exact ⟨_, _, _, rfl, .inr (.inr rfl)⟩
      · rw [if_neg hbad, hat]
        have hor : turn = 98 ∨ turn = 119 := by
          unfold sfen_Parse.bad at hbad
          rw [mkB_list] at hbad
          by_cases e1 : b = 98
          · left; rw [← hbt, e1]; rfl
          · by_cases e2 : b = 119
            · right; rw [← hbt, e2]; rfl
            · exact absurd (by simp [e1, e2]) hbad
        dsimp only
        rw [if_neg (by
          rintro (h | h | h)
          · rw [beq_self_eq_true] at h; exact absurd h (by decide)
          · exact absurd h (by decide)
          · exact absurd h (by decide))]
        generalize hsd : (if ([b] == [119]) = true then (1 : Int) else 0) = sd
        have hsd2 : sd = 0 ∨ sd = 1 := by rw [← hsd]; split <;> simp
        have hl2 : (a.take 81 ++ (List.range 16).map (fun i => a.getD (81 + i) 0) ++ [sd]).length = 98 := by simp [hla]
        have hp2 : ∀ i, (Lit.int .i8 ((a.take 81 ++ (List.range 16).map (fun i => a.getD (81 + i) 0) ++ [sd]).getD i 0)).wf = true := fun i => by
          refine wf_getD _ (fun z hz => ?_) i
          rcases List.mem_append.1 hz with hz | hz
          · rcases List.mem_append.1 hz with hz | hz
            · obtain ⟨k, hk, rfl⟩ := List.mem_iff_getElem.1 (List.mem_of_mem_take hz)
              have := hpa k
              rw [List.getD_eq_getElem?_getD, List.getElem?_eq_getElem hk] at this
              exact this
            · obtain ⟨k, _, rfl⟩ := List.mem_map.1 hz
              exact hpa _
          · obtain rfl := List.mem_singleton.1 hz
            rcases hsd2 with h | h <;> rw [h] <;> decide
        rw [check_is _ hl2 hp2, Option.bind_some]
        by_cases hz : checkT (a.take 81 ++ (List.range 16).map (fun i => a.getD (81 + i) 0) ++ [sd]) = 0
        · rw [if_pos hz]
          exact ⟨_, _, _, rfl, hor.elim .inl (fun h => .inr (.inl h))⟩
        · rw [if_neg hz]
          exact ⟨_, _, _, rfl, hor.elim .inl (fun h => .inr (.inl h))⟩
end Go.Proofs.YtigenhbmgpfffaaGreatDoor.Pl
