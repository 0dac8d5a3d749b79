import Derived.Test.YtigenhbmgpfffaaGreatDoorQ13
import Derived.Test.YtigenhbmgpfffaaGreatDoorQ26
import Derived.Test.YtigenhbmgpfffaaGreatDoorQ29
import Derived.Test.YtigenhbmgpfffaaGreatDoorQ31
import Derived.Test.YtigenhbmgpfffaaGreatDoorQ32
namespace Go.Proofs.YtigenhbmgpfffaaGreatDoor.Pa
open Go.RowKit Go.Proofs.YtigenhbmgpfffaaGreatDoorW.PrintWords Go.Proofs.YtigenhbmgpfffaaGreatDoorW.PrintLast Go.Proofs.YtigenhbmgpfffaaGreatDoorW.PrintMore
attribute [local go_sem] max2_int min2_int max_two min_two max_three min_three max_four min_four
set_option linter.unusedVariables false
set_option linter.unusedSimpArgs false
set_option maxRecDepth 100000 in
set_option maxHeartbeats 16000000 in
theorem kakugyolaw13_SfenNumbers.calls (a : List Int) (n : Int) (s x : ByteArray) (w : World) (henv : Env w) (hla : a.length = 98) (hx : sfen_Print.f a 1 = some x)
    (hlaw : x.toList ≠ [] → s.size ≤ 20 → ∃ fr : ByteArray, 1 ≤ x.size ∧ x.size ≤ 100000 ∧ x.extract 0 (x.size - 1) = fr ∧ fr.size ≤ 100000 ∧
      ((1 ≤ n ∧ n ≤ 9999 ∧ ∃ y : ByteArray, sfen_Print.f a n = some y ∧ sfen_Parse.f y = some (a, n, 0) ∧ fr.size ≤ y.size ∧ ((y.extract 0 fr.size).toList == fr.toList) = true) ∨ (¬ (1 ≤ n ∧ n ≤ 9999) ∧ sfen_Print.f a n = some ⟨#[]⟩)) ∧
      ∃ m cs, kakugyolaw13_numberOf.f 100 s = some m ∧ sfen_Parse.f (fr ++ s) = some (cs, m, if m = 0 then 70 else 0) ∧ 0 ≤ m ∧ m ≤ 9999) :
    Calls Tryz.prog 7 #[.agg (value_Of.pv a), .int .i64 n, .string s] w fun e w' => e = .returned (.bool true) ∧ Below w.heap.size w w' := by
  have hz := board_Start.zero
  have HZ : Aside0 ((value_Of.pv board_Start.zl).size = 98) := ⟨by rw [value_Of.pv_size, board_Start.zl_len]⟩
  have EX := Aside0.mk hx
  have HLAW := Aside0.mk hlaw
  have B1 : (w.alloc (Obj.cells (value_Of.pv a) 28)).heap[w.heap.size]? = some (.cells (value_Of.pv a) 28 (0, 0)) := blk_new w _
  have BB : Below w.heap.size w (w.alloc (Obj.cells (value_Of.pv a) 28)) := below_alloc (Below.refl _ _) _
  have BE := henv.below BB
  have heq : ∀ W, (Op.equalIn 10000 28 (.agg (value_Of.pv a)) (.agg (value_Of.pv a))).run Tryz.prog W = .ok true W := fun W => (eqpos a a W hla hla).trans (by rw [decide_eq_true rfl])
  clear hx hlaw henv
  go_enter Tryz.func7, Tryz.ntmps7
  go_upto_region 1 with (fail)
  generalize w.alloc (Obj.cells (value_Of.pv a) 28) = W at *
  have K1 := Aside0.mk B1
  have KB := Aside0.mk BB
  have KE := Aside0.mk BE
  clear B1 BB BE
  go_upto_region 3 with (first | (go_at_call 9; refine (kakugyolaw13_prints.calls _ KE.out).mono ?_; rintro e w7 ⟨rfl, hb⟩; have nK1 := Aside0.mk (blk_below K1.out hb); have nB := Aside0.mk (below_step KB.out hb); have nE := Aside0.mk (KE.out.below hb); clear K1 KB KE hb; have K1 := nK1; have KB := nB; have KE := nE; clear nK1 nB nE))
  go_upto_region 4 with (first | ((with_reducible refine gate_dst (N := 19) rfl ?_); refine value_Of.load rfl 28 (.tmp 3) rfl rfl K1.out Tryz.underlying28 rfl value_Of.infoP (by omega) ?_; rw [show (a.drop 0).take 98 = a by rw [List.drop_zero, List.take_of_length_le (by omega)]]) | (go_at_call 10; (with_reducible refine (sfen_Print.print_calls a 1 _ _ KE.out.tab KE.out.pow hla name_le2 EX.out).mono ?_); rintro e w7 ⟨rfl, hb⟩; have nK1 := Aside0.mk (blk_below K1.out hb); have nB := Aside0.mk (below_step KB.out hb); have nE := Aside0.mk (KE.out.below hb); clear K1 KB KE hb; have K1 := nK1; have KB := nB; have KE := nE; clear nK1 nB nE))
  by_cases hx0 : x.toList = []
  · have f0 : (x.toList == []) = true := by rw [hx0]; rfl
    go_wp2
    go_ret
    exact ⟨rfl, KB.out⟩
  · have f0 : (x.toList == []) = false := by rw [beq_eq_false_iff_ne]; exact hx0
    by_cases hs : s.size ≤ 20
    · have t0 : decide (20 < (s.size : Int)) = false := decide_eq_false (by omega)
      have t0' : (20 < (s.size : Int)) = False := eq_false (by omega)
      have t0n : (20 < s.size) = False := eq_false (by omega)
      obtain ⟨fr, hx1, hxs, hfr, hfs, hN, hno⟩ := HLAW.out hx0 hs
      have HN := Aside0.mk hno
      have HC := Aside0.mk hN
      clear HLAW hno hN hx0
      have hw0 : wrap64 ((x.size : Int) - 1) = (x.size : Int) - 1 := by unfold wrap64; omega
      have q1 : 0 ≤ wrap64 ((x.size : Int) - 1) := by omega
      have q2 : wrap64 ((x.size : Int) - 1) ≤ (x.size : Int) := by omega
      go_upto_region 7 with (fail)
      clear t0 t0' t0n hw0
      (try simp only [hfr])
      rcases HC.out with ⟨n1, n9, y, hy, hpy, hfy, hcut⟩ | ⟨hout, hy⟩
      · have EY := Aside0.mk hy
        have EP := Aside0.mk hpy
        clear HC hy hpy
        have f1 : decide (1 ≤ n) = true := decide_eq_true n1
        have f1' : (1 ≤ n) = True := eq_true n1
        have f2 : decide (n ≤ 9999) = true := decide_eq_true n9
        have f2' : (n ≤ 9999) = True := eq_true n9
        go_upto_region 9 with (first | ((with_reducible refine gate_dst (N := 39) rfl ?_); refine value_Of.load rfl 28 (.tmp 3) rfl rfl K1.out Tryz.underlying28 rfl value_Of.infoP (by omega) ?_; rw [show (a.drop 0).take 98 = a by rw [List.drop_zero, List.take_of_length_le (by omega)]]) | (go_at_call 10; (with_reducible refine (sfen_Print.print_calls a n _ _ KE.out.tab KE.out.pow hla name_le2 EY.out).mono ?_); rintro e w7 ⟨rfl, hb⟩; have nK1 := Aside0.mk (blk_below K1.out hb); have nB := Aside0.mk (below_step KB.out hb); have nE := Aside0.mk (KE.out.below hb); clear K1 KB KE hb; have K1 := nK1; have KB := nB; have KE := nE; clear nK1 nB nE))
        go_upto_region 10 with (first | (go_at_call 12; (with_reducible refine (sfen_Parse.parse_calls _ _ _ _ _ KE.out atoi_range EP.out).mono ?_); rintro e w7 ⟨rfl, hlen, hb⟩; have nK1 := Aside0.mk (blk_below K1.out hb); have nB := Aside0.mk (below_step KB.out hb); have nE := Aside0.mk (KE.out.below hb); clear K1 KB KE hb; have K1 := nK1; have KB := nB; have KE := nE; clear nK1 nB nE) | ((with_reducible refine gate_store (t := 28) (p := 10) (v := .tmp 45) rfl ?_); refine value_Of.store rfl 28 (.tmp 10) (.tmp 45) rfl rfl rfl (blk_new _ _) HZ.out hla value_Of.infoP ?_; intro W3 s1 s2 s3; have K10 := Aside0.mk s1; have nK1 := Aside0.mk ((s3 _ (Nat.ne_of_lt (blk_lt K1.out))).trans (blk_alloc K1.out _)); have nB := Aside0.mk (s2 w.heap.size w KB.out.size (below_alloc KB.out _)); have nE := Aside0.mk (KE.out.below (s2 _ _ (Nat.le_refl _) (below_alloc (Below.refl _ _) _))); clear KB KE s1 s2 s3 K1; have K1 := nK1; have KB := nB; have KE := nE; clear nB nE nK1))
        clear EP EY
        have u1 : decide ((y.size : Int) < (fr.size : Int)) = false := decide_eq_false (by omega)
        have u1' : ((y.size : Int) < (fr.size : Int)) = False := eq_false (by omega)
        have u1n : (y.size < fr.size) = False := eq_false (by omega)
        have u2 : (0 : Int) ≤ (fr.size : Int) := by omega
        have u3 : (fr.size : Int) ≤ (y.size : Int) := by omega
        have u4 : (n == n) = true := beq_self_eq_true n
        go_upto_region 14 with (first | ((with_reducible show Oper.wp _ ⟨some 51, _, _, _, _, _⟩ _ _ _ _); refine value_Of.wp_load 28 (.tmp 10) rfl rfl K10.out Tryz.underlying28 rfl value_Of.infoP (by omega) ?_; rw [show (a.drop 0).take 98 = a by rw [List.drop_zero, List.take_of_length_le (by omega)]]) | ((with_reducible show Oper.wp _ ⟨some 52, _, _, _, _, _⟩ _ _ _ _); refine value_Of.wp_load 28 (.tmp 3) rfl rfl K1.out Tryz.underlying28 rfl value_Of.infoP (by omega) ?_; rw [show (a.drop 0).take 98 = a by rw [List.drop_zero, List.take_of_length_le (by omega)]]))
        clear u1 u1' u1n u2 u3 u4 f1 f1' f2 f2'
        obtain ⟨m, cs, hno, hpa, hm0, hm9⟩ := HN.out
        have HNO := Aside0.mk hno
        have HPA := Aside0.mk hpa
        clear HN hno hpa
        go_upto_region 15 with (first | (go_at_call 14; (with_reducible refine (kakugyolaw13_numberOf.calls _ _ _ _ HNO.out).mono ?_); rintro e w7 ⟨rfl, hd⟩; have hb := hd.below; clear hd; have nK1 := Aside0.mk (blk_below K1.out hb); have nK10 := Aside0.mk (blk_below K10.out hb); have nB := Aside0.mk (below_step KB.out hb); have nE := Aside0.mk (KE.out.below hb); clear K1 K10 KB KE hb; have K1 := nK1; have K10 := nK10; have KB := nB; have KE := nE; clear nK1 nK10 nB nE))
        by_cases hm : m = 0
        · subst hm
          have HP := HPA.out
          rw [if_pos rfl] at HP
          have HPB := Aside0.mk HP
          clear HPA HP
          go_wp2_with (first | (go_at_call 12; (with_reducible refine (sfen_Parse.parse_calls _ _ _ _ _ KE.out atoi_range HPB.out).mono ?_); rintro e w7 ⟨rfl, hlen, hb⟩; have hlc := hlen; have nK1 := Aside0.mk (blk_below K1.out hb); have nK10 := Aside0.mk (blk_below K10.out hb); have nB := Aside0.mk (below_step KB.out hb); have nE := Aside0.mk (KE.out.below hb); clear K1 K10 KB KE hb; have K1 := nK1; have K10 := nK10; have KB := nB; have KE := nE; clear nK1 nK10 nB nE) | ((with_reducible refine gate_store (t := 28) (p := 14) (v := .tmp 86) rfl ?_); refine value_Of.store rfl 28 (.tmp 14) (.tmp 86) rfl rfl rfl (blk_new _ _) HZ.out hlc value_Of.infoP ?_; intro W3 s1 s2 s3; have K14 := Aside0.mk s1; have nK1 := Aside0.mk ((s3 _ (Nat.ne_of_lt (blk_lt K1.out))).trans (blk_alloc K1.out _)); have nK10 := Aside0.mk ((s3 _ (Nat.ne_of_lt (blk_lt K10.out))).trans (blk_alloc K10.out _)); have nB := Aside0.mk (s2 w.heap.size w KB.out.size (below_alloc KB.out _)); have nE := Aside0.mk (KE.out.below (s2 _ _ (Nat.le_refl _) (below_alloc (Below.refl _ _) _))); clear KB KE s1 s2 s3 K1 K10; have K1 := nK1; have K10 := nK10; have KB := nB; have KE := nE; clear nB nE nK1 nK10))
          go_ret
          exact ⟨rfl, KB.out⟩
        · have HP := HPA.out
          rw [if_neg hm] at HP
          have HPB := Aside0.mk HP
          clear HPA HP
          have f1 : (0 < m) = True := eq_true (by omega)
          have f2 : decide (0 < m) = true := decide_eq_true (by omega)
          have f3 : (m == m) = true := beq_self_eq_true m
          go_wp2_with (first | (go_at_call 12; (with_reducible refine (sfen_Parse.parse_calls _ _ _ _ _ KE.out atoi_range HPB.out).mono ?_); rintro e w7 ⟨rfl, hlen, hb⟩; have hlc := hlen; have nK1 := Aside0.mk (blk_below K1.out hb); have nK10 := Aside0.mk (blk_below K10.out hb); have nB := Aside0.mk (below_step KB.out hb); have nE := Aside0.mk (KE.out.below hb); clear K1 K10 KB KE hb; have K1 := nK1; have K10 := nK10; have KB := nB; have KE := nE; clear nK1 nK10 nB nE) | ((with_reducible refine gate_store (t := 28) (p := 14) (v := .tmp 86) rfl ?_); refine value_Of.store rfl 28 (.tmp 14) (.tmp 86) rfl rfl rfl (blk_new _ _) HZ.out hlc value_Of.infoP ?_; intro W3 s1 s2 s3; have K14 := Aside0.mk s1; have nK1 := Aside0.mk ((s3 _ (Nat.ne_of_lt (blk_lt K1.out))).trans (blk_alloc K1.out _)); have nK10 := Aside0.mk ((s3 _ (Nat.ne_of_lt (blk_lt K10.out))).trans (blk_alloc K10.out _)); have nB := Aside0.mk (s2 w.heap.size w KB.out.size (below_alloc KB.out _)); have nE := Aside0.mk (KE.out.below (s2 _ _ (Nat.le_refl _) (below_alloc (Below.refl _ _) _))); clear KB KE s1 s2 s3 K1 K10; have K1 := nK1; have K10 := nK10; have KB := nB; have KE := nE; clear nB nE nK1 nK10))
          go_ret
          exact ⟨rfl, KB.out⟩
      · have EY := Aside0.mk hy
        clear HC hy
        by_cases n1 : 1 ≤ n
        · have n9 : ¬ n ≤ 9999 := fun h => hout ⟨n1, h⟩
          have f1 : decide (1 ≤ n) = true := decide_eq_true n1
          have f1' : (1 ≤ n) = True := eq_true n1
          have f2 : decide (n ≤ 9999) = false := decide_eq_false n9
          have f2' : (n ≤ 9999) = False := eq_false n9
          go_upto_region 14 with (first | ((with_reducible refine gate_dst (N := 75) rfl ?_); refine value_Of.load rfl 28 (.tmp 3) rfl rfl K1.out Tryz.underlying28 rfl value_Of.infoP (by omega) ?_; rw [show (a.drop 0).take 98 = a by rw [List.drop_zero, List.take_of_length_le (by omega)]]) | (go_at_call 10; (with_reducible refine (sfen_Print.print_calls a n _ _ KE.out.tab KE.out.pow hla name_le2 EY.out).mono ?_); rintro e w7 ⟨rfl, hb⟩; have nK1 := Aside0.mk (blk_below K1.out hb); have nB := Aside0.mk (below_step KB.out hb); have nE := Aside0.mk (KE.out.below hb); clear K1 KB KE hb; have K1 := nK1; have KB := nB; have KE := nE; clear nK1 nB nE))
          clear f1 f1' f2 f2'
          obtain ⟨m, cs, hno, hpa, hm0, hm9⟩ := HN.out
          have HNO := Aside0.mk hno
          have HPA := Aside0.mk hpa
          clear HN hno hpa
          go_upto_region 15 with (first | (go_at_call 14; (with_reducible refine (kakugyolaw13_numberOf.calls _ _ _ _ HNO.out).mono ?_); rintro e w7 ⟨rfl, hd⟩; have hb := hd.below; clear hd; have nK1 := Aside0.mk (blk_below K1.out hb); have nB := Aside0.mk (below_step KB.out hb); have nE := Aside0.mk (KE.out.below hb); clear K1 KB KE hb; have K1 := nK1; have KB := nB; have KE := nE; clear nK1 nB nE))
          by_cases hm : m = 0
          · subst hm
            have HP := HPA.out
            rw [if_pos rfl] at HP
            have HPB := Aside0.mk HP
            clear HPA HP
            go_wp2_with (first | (go_at_call 12; (with_reducible refine (sfen_Parse.parse_calls _ _ _ _ _ KE.out atoi_range HPB.out).mono ?_); rintro e w7 ⟨rfl, hlen, hb⟩; have hlc := hlen; have nK1 := Aside0.mk (blk_below K1.out hb); have nB := Aside0.mk (below_step KB.out hb); have nE := Aside0.mk (KE.out.below hb); clear K1 KB KE hb; have K1 := nK1; have KB := nB; have KE := nE; clear nK1 nB nE) | ((with_reducible refine gate_store (t := 28) (p := 14) (v := .tmp 86) rfl ?_); refine value_Of.store rfl 28 (.tmp 14) (.tmp 86) rfl rfl rfl (blk_new _ _) HZ.out hlc value_Of.infoP ?_; intro W3 s1 s2 s3; have K14 := Aside0.mk s1; have nK1 := Aside0.mk ((s3 _ (Nat.ne_of_lt (blk_lt K1.out))).trans (blk_alloc K1.out _)); have nB := Aside0.mk (s2 w.heap.size w KB.out.size (below_alloc KB.out _)); have nE := Aside0.mk (KE.out.below (s2 _ _ (Nat.le_refl _) (below_alloc (Below.refl _ _) _))); clear KB KE s1 s2 s3 K1; have K1 := nK1; have KB := nB; have KE := nE; clear nB nE nK1))
            go_ret
            exact ⟨rfl, KB.out⟩
          · have HP := HPA.out
            rw [if_neg hm] at HP
            have HPB := Aside0.mk HP
            clear HPA HP
            have f1 : (0 < m) = True := eq_true (by omega)
            have f2 : decide (0 < m) = true := decide_eq_true (by omega)
            have f3 : (m == m) = true := beq_self_eq_true m
            go_wp2_with (first | (go_at_call 12; (with_reducible refine (sfen_Parse.parse_calls _ _ _ _ _ KE.out atoi_range HPB.out).mono ?_); rintro e w7 ⟨rfl, hlen, hb⟩; have hlc := hlen; have nK1 := Aside0.mk (blk_below K1.out hb); have nB := Aside0.mk (below_step KB.out hb); have nE := Aside0.mk (KE.out.below hb); clear K1 KB KE hb; have K1 := nK1; have KB := nB; have KE := nE; clear nK1 nB nE) | ((with_reducible refine gate_store (t := 28) (p := 14) (v := .tmp 86) rfl ?_); refine value_Of.store rfl 28 (.tmp 14) (.tmp 86) rfl rfl rfl (blk_new _ _) HZ.out hlc value_Of.infoP ?_; intro W3 s1 s2 s3; have K14 := Aside0.mk s1; have nK1 := Aside0.mk ((s3 _ (Nat.ne_of_lt (blk_lt K1.out))).trans (blk_alloc K1.out _)); have nB := Aside0.mk (s2 w.heap.size w KB.out.size (below_alloc KB.out _)); have nE := Aside0.mk (KE.out.below (s2 _ _ (Nat.le_refl _) (below_alloc (Below.refl _ _) _))); clear KB KE s1 s2 s3 K1; have K1 := nK1; have KB := nB; have KE := nE; clear nB nE nK1))
            go_ret
            exact ⟨rfl, KB.out⟩
        · have f1 : decide (1 ≤ n) = false := decide_eq_false n1
          have f1' : (1 ≤ n) = False := eq_false n1
          go_upto_region 14 with (first | ((with_reducible refine gate_dst (N := 75) rfl ?_); refine value_Of.load rfl 28 (.tmp 3) rfl rfl K1.out Tryz.underlying28 rfl value_Of.infoP (by omega) ?_; rw [show (a.drop 0).take 98 = a by rw [List.drop_zero, List.take_of_length_le (by omega)]]) | (go_at_call 10; (with_reducible refine (sfen_Print.print_calls a n _ _ KE.out.tab KE.out.pow hla name_le2 EY.out).mono ?_); rintro e w7 ⟨rfl, hb⟩; have nK1 := Aside0.mk (blk_below K1.out hb); have nB := Aside0.mk (below_step KB.out hb); have nE := Aside0.mk (KE.out.below hb); clear K1 KB KE hb; have K1 := nK1; have KB := nB; have KE := nE; clear nK1 nB nE))
          clear f1 f1'
          obtain ⟨m, cs, hno, hpa, hm0, hm9⟩ := HN.out
          have HNO := Aside0.mk hno
          have HPA := Aside0.mk hpa
          clear HN hno hpa
          go_upto_region 15 with (first | (go_at_call 14; (with_reducible refine (kakugyolaw13_numberOf.calls _ _ _ _ HNO.out).mono ?_); rintro e w7 ⟨rfl, hd⟩; have hb := hd.below; clear hd; have nK1 := Aside0.mk (blk_below K1.out hb); have nB := Aside0.mk (below_step KB.out hb); have nE := Aside0.mk (KE.out.below hb); clear K1 KB KE hb; have K1 := nK1; have KB := nB; have KE := nE; clear nK1 nB nE))
          by_cases hm : m = 0
          · subst hm
            have HP := HPA.out
            rw [if_pos rfl] at HP
            have HPB := Aside0.mk HP
            clear HPA HP
            go_wp2_with (first | (go_at_call 12; (with_reducible refine (sfen_Parse.parse_calls _ _ _ _ _ KE.out atoi_range HPB.out).mono ?_); rintro e w7 ⟨rfl, hlen, hb⟩; have hlc := hlen; have nK1 := Aside0.mk (blk_below K1.out hb); have nB := Aside0.mk (below_step KB.out hb); have nE := Aside0.mk (KE.out.below hb); clear K1 KB KE hb; have K1 := nK1; have KB := nB; have KE := nE; clear nK1 nB nE) | ((with_reducible refine gate_store (t := 28) (p := 14) (v := .tmp 86) rfl ?_); refine value_Of.store rfl 28 (.tmp 14) (.tmp 86) rfl rfl rfl (blk_new _ _) HZ.out hlc value_Of.infoP ?_; intro W3 s1 s2 s3; have K14 := Aside0.mk s1; have nK1 := Aside0.mk ((s3 _ (Nat.ne_of_lt (blk_lt K1.out))).trans (blk_alloc K1.out _)); have nB := Aside0.mk (s2 w.heap.size w KB.out.size (below_alloc KB.out _)); have nE := Aside0.mk (KE.out.below (s2 _ _ (Nat.le_refl _) (below_alloc (Below.refl _ _) _))); clear KB KE s1 s2 s3 K1; have K1 := nK1; have KB := nB; have KE := nE; clear nB nE nK1))
            go_ret
            exact ⟨rfl, KB.out⟩
          · have HP := HPA.out
            rw [if_neg hm] at HP
            have HPB := Aside0.mk HP
            clear HPA HP
            have f1 : (0 < m) = True := eq_true (by omega)
            have f2 : decide (0 < m) = true := decide_eq_true (by omega)
            have f3 : (m == m) = true := beq_self_eq_true m
            go_wp2_with (first | (go_at_call 12; (with_reducible refine (sfen_Parse.parse_calls _ _ _ _ _ KE.out atoi_range HPB.out).mono ?_); rintro e w7 ⟨rfl, hlen, hb⟩; have hlc := hlen; have nK1 := Aside0.mk (blk_below K1.out hb); have nB := Aside0.mk (below_step KB.out hb); have nE := Aside0.mk (KE.out.below hb); clear K1 KB KE hb; have K1 := nK1; have KB := nB; have KE := nE; clear nK1 nB nE) | ((with_reducible refine gate_store (t := 28) (p := 14) (v := .tmp 86) rfl ?_); refine value_Of.store rfl 28 (.tmp 14) (.tmp 86) rfl rfl rfl (blk_new _ _) HZ.out hlc value_Of.infoP ?_; intro W3 s1 s2 s3; have K14 := Aside0.mk s1; have nK1 := Aside0.mk ((s3 _ (Nat.ne_of_lt (blk_lt K1.out))).trans (blk_alloc K1.out _)); have nB := Aside0.mk (s2 w.heap.size w KB.out.size (below_alloc KB.out _)); have nE := Aside0.mk (KE.out.below (s2 _ _ (Nat.le_refl _) (below_alloc (Below.refl _ _) _))); clear KB KE s1 s2 s3 K1; have K1 := nK1; have KB := nB; have KE := nE; clear nB nE nK1))
            go_ret
            exact ⟨rfl, KB.out⟩
    · have t0 : decide (20 < (s.size : Int)) = true := decide_eq_true (by omega)
      have t0' : (20 < (s.size : Int)) = True := eq_true (by omega)
      have t0n : (20 < s.size) = True := eq_true (by omega)
      go_wp2
      go_ret
      exact ⟨rfl, KB.out⟩
def kakugyolaw13_digits.f (a0 : Int) : Option (ByteArray) := if a0 < 10 then (if 0 ≤ a0 then (if a0 ≤ (wrap64 (a0 + 1)) then (if (wrap64 (a0 + 1)) ≤ 10 then (some ((⟨#[48, 49, 50, 51, 52, 53, 54, 55, 56, 57]⟩ : ByteArray).extract (a0 : Int).toNat ((wrap64 (a0 + 1)) : Int).toNat)) else (none)) else (none)) else (none)) else (if 0 ≤ (wrap64 (Int.tdiv a0 10)) then (if (wrap64 (Int.tdiv a0 10)) ≤ (wrap64 ((wrap64 (Int.tdiv a0 10)) + 1)) then (if (wrap64 ((wrap64 (Int.tdiv a0 10)) + 1)) ≤ 10 then (if 0 ≤ (Int.tmod a0 10) then (if (Int.tmod a0 10) ≤ (wrap64 ((Int.tmod a0 10) + 1)) then (if (wrap64 ((Int.tmod a0 10) + 1)) ≤ 10 then (if ((⟨#[48, 49, 50, 51, 52, 53, 54, 55, 56, 57]⟩ : ByteArray).extract ((wrap64 (Int.tdiv a0 10)) : Int).toNat ((wrap64 ((wrap64 (Int.tdiv a0 10)) + 1)) : Int).toNat).size + ((⟨#[48, 49, 50, 51, 52, 53, 54, 55, 56, 57]⟩ : ByteArray).extract ((Int.tmod a0 10) : Int).toNat ((wrap64 ((Int.tmod a0 10) + 1)) : Int).toNat).size ≤ 9223372036854775807 then (some (((⟨#[48, 49, 50, 51, 52, 53, 54, 55, 56, 57]⟩ : ByteArray).extract ((wrap64 (Int.tdiv a0 10)) : Int).toNat ((wrap64 ((wrap64 (Int.tdiv a0 10)) + 1)) : Int).toNat) ++ ((⟨#[48, 49, 50, 51, 52, 53, 54, 55, 56, 57]⟩ : ByteArray).extract ((Int.tmod a0 10) : Int).toNat ((wrap64 ((Int.tmod a0 10) + 1)) : Int).toNat))) else (none)) else (none)) else (none)) else (none)) else (none)) else (none)) else (none))
set_option maxHeartbeats 8000000 in
set_option maxRecDepth 100000 in
theorem kakugyolaw13_digits.calls (a0 : Int) (r : ByteArray) (w : World) (h : kakugyolaw13_digits.f a0 = some r) :
    Calls Tryz.prog 15 #[.int .i64 a0] w fun e w' => e = .returned (.string r) ∧ Drawn0 w w' := by
  have H : (if a0 < 10 then (if 0 ≤ a0 then (if a0 ≤ (wrap64 (a0 + 1)) then (if (wrap64 (a0 + 1)) ≤ 10 then (some ((⟨#[48, 49, 50, 51, 52, 53, 54, 55, 56, 57]⟩ : ByteArray).extract (a0 : Int).toNat ((wrap64 (a0 + 1)) : Int).toNat)) else (none)) else (none)) else (none)) else (if 0 ≤ (wrap64 (Int.tdiv a0 10)) then (if (wrap64 (Int.tdiv a0 10)) ≤ (wrap64 ((wrap64 (Int.tdiv a0 10)) + 1)) then (if (wrap64 ((wrap64 (Int.tdiv a0 10)) + 1)) ≤ 10 then (if 0 ≤ (Int.tmod a0 10) then (if (Int.tmod a0 10) ≤ (wrap64 ((Int.tmod a0 10) + 1)) then (if (wrap64 ((Int.tmod a0 10) + 1)) ≤ 10 then (if ((⟨#[48, 49, 50, 51, 52, 53, 54, 55, 56, 57]⟩ : ByteArray).extract ((wrap64 (Int.tdiv a0 10)) : Int).toNat ((wrap64 ((wrap64 (Int.tdiv a0 10)) + 1)) : Int).toNat).size + ((⟨#[48, 49, 50, 51, 52, 53, 54, 55, 56, 57]⟩ : ByteArray).extract ((Int.tmod a0 10) : Int).toNat ((wrap64 ((Int.tmod a0 10) + 1)) : Int).toNat).size ≤ 9223372036854775807 then (some (((⟨#[48, 49, 50, 51, 52, 53, 54, 55, 56, 57]⟩ : ByteArray).extract ((wrap64 (Int.tdiv a0 10)) : Int).toNat ((wrap64 ((wrap64 (Int.tdiv a0 10)) + 1)) : Int).toNat) ++ ((⟨#[48, 49, 50, 51, 52, 53, 54, 55, 56, 57]⟩ : ByteArray).extract ((Int.tmod a0 10) : Int).toNat ((wrap64 ((Int.tmod a0 10) + 1)) : Int).toNat))) else (none)) else (none)) else (none)) else (none)) else (none)) else (none)) else (none))) = some r := h
  clear h
  by_cases c2 : a0 < 10
  · rw [if_pos c2] at H
    have c2b0 : decide (a0 < 10) = true := decide_eq_true c2
    clear c2
    by_cases c3 : 0 ≤ a0
    · rw [if_pos c3] at H
      have c3b0 := eq_true c3
      have c3b1 : decide (0 ≤ a0) = true := decide_eq_true c3
      clear c3
      by_cases c4 : a0 ≤ (wrap64 (a0 + 1))
      · rw [if_pos c4] at H
        have c4b0 := eq_true c4
        have c4b1 : decide (a0 ≤ (wrap64 (a0 + 1))) = true := decide_eq_true c4
        by_cases c5 : (wrap64 (a0 + 1)) ≤ 10
        · rw [if_pos c5] at H
          have c5b0 := eq_true c5
          have c5b1 : decide ((wrap64 (a0 + 1)) ≤ 10) = true := decide_eq_true c5
          obtain rfl := Option.some.inj H
          go_enter Tryz.func15, Tryz.ntmps15
          go_wp2
          repeat (go_quiet (fail); try go_wp2)
          go_ret
          exact ⟨by first | rfl | (simp; done) | (simp [*]; done), by repeat (first | exact Drawn0.refl _ | apply Drawn0.step)⟩
        · rw [if_neg c5] at H
          exact absurd H (by simp)
      · rw [if_neg c4] at H
        exact absurd H (by simp)
    · rw [if_neg c3] at H
      exact absurd H (by simp)
  · rw [if_neg c2] at H
    have c2b0 : decide (a0 < 10) = false := decide_eq_false c2
    clear c2
    obtain ⟨ji6, hji6⟩ : ∃ j_ : Int, (wrap64 (Int.tdiv a0 10)) = j_ := ⟨_, rfl⟩
    replace H : (if 0 ≤ (ji6) then (if (ji6) ≤ (wrap64 ((ji6) + 1)) then (if (wrap64 ((ji6) + 1)) ≤ 10 then (if 0 ≤ (Int.tmod a0 10) then (if (Int.tmod a0 10) ≤ (wrap64 ((Int.tmod a0 10) + 1)) then (if (wrap64 ((Int.tmod a0 10) + 1)) ≤ 10 then (if ((⟨#[48, 49, 50, 51, 52, 53, 54, 55, 56, 57]⟩ : ByteArray).extract ((ji6) : Int).toNat ((wrap64 ((ji6) + 1)) : Int).toNat).size + ((⟨#[48, 49, 50, 51, 52, 53, 54, 55, 56, 57]⟩ : ByteArray).extract ((Int.tmod a0 10) : Int).toNat ((wrap64 ((Int.tmod a0 10) + 1)) : Int).toNat).size ≤ 9223372036854775807 then (some (((⟨#[48, 49, 50, 51, 52, 53, 54, 55, 56, 57]⟩ : ByteArray).extract ((ji6) : Int).toNat ((wrap64 ((ji6) + 1)) : Int).toNat) ++ ((⟨#[48, 49, 50, 51, 52, 53, 54, 55, 56, 57]⟩ : ByteArray).extract ((Int.tmod a0 10) : Int).toNat ((wrap64 ((Int.tmod a0 10) + 1)) : Int).toNat))) else (none)) else (none)) else (none)) else (none)) else (none)) else (none)) else (none)) = some r := by first | (rw [hji6] at H; exact H) | (simp only [hji6] at H ⊢; exact H)
    have hji6w : (IntKind.i64.wrap (Int.tdiv a0 10)) = ji6 := (i64_w _).trans hji6
    by_cases c7 : 0 ≤ (ji6)
    · rw [if_pos c7] at H
      have c7b0 := eq_true c7
      have c7b1 : decide (0 ≤ (ji6)) = true := decide_eq_true c7
      clear c7
      by_cases c8 : (ji6) ≤ (wrap64 ((ji6) + 1))
      · rw [if_pos c8] at H
        have c8b0 := eq_true c8
        have c8b1 : decide ((ji6) ≤ (wrap64 ((ji6) + 1))) = true := decide_eq_true c8
        by_cases c9 : (wrap64 ((ji6) + 1)) ≤ 10
        · rw [if_pos c9] at H
          have c9b0 := eq_true c9
          have c9b1 : decide ((wrap64 ((ji6) + 1)) ≤ 10) = true := decide_eq_true c9
          obtain ⟨ji10, hji10⟩ : ∃ j_ : Int, (Int.tmod a0 10) = j_ := ⟨_, rfl⟩
          replace H : (if 0 ≤ (ji10) then (if (ji10) ≤ (wrap64 ((ji10) + 1)) then (if (wrap64 ((ji10) + 1)) ≤ 10 then (if ((⟨#[48, 49, 50, 51, 52, 53, 54, 55, 56, 57]⟩ : ByteArray).extract ((ji6) : Int).toNat ((wrap64 ((ji6) + 1)) : Int).toNat).size + ((⟨#[48, 49, 50, 51, 52, 53, 54, 55, 56, 57]⟩ : ByteArray).extract ((ji10) : Int).toNat ((wrap64 ((ji10) + 1)) : Int).toNat).size ≤ 9223372036854775807 then (some (((⟨#[48, 49, 50, 51, 52, 53, 54, 55, 56, 57]⟩ : ByteArray).extract ((ji6) : Int).toNat ((wrap64 ((ji6) + 1)) : Int).toNat) ++ ((⟨#[48, 49, 50, 51, 52, 53, 54, 55, 56, 57]⟩ : ByteArray).extract ((ji10) : Int).toNat ((wrap64 ((ji10) + 1)) : Int).toNat))) else (none)) else (none)) else (none)) else (none)) = some r := by first | (rw [hji10] at H; exact H) | (simp only [hji10] at H ⊢; exact H)
          by_cases c11 : 0 ≤ (ji10)
          · rw [if_pos c11] at H
            have c11b0 := eq_true c11
            have c11b1 : decide (0 ≤ (ji10)) = true := decide_eq_true c11
            clear c11
            by_cases c12 : (ji10) ≤ (wrap64 ((ji10) + 1))
            · rw [if_pos c12] at H
              have c12b0 := eq_true c12
              have c12b1 : decide ((ji10) ≤ (wrap64 ((ji10) + 1))) = true := decide_eq_true c12
              by_cases c13 : (wrap64 ((ji10) + 1)) ≤ 10
              · rw [if_pos c13] at H
                have c13b0 := eq_true c13
                have c13b1 : decide ((wrap64 ((ji10) + 1)) ≤ 10) = true := decide_eq_true c13
                by_cases c14 : ((⟨#[48, 49, 50, 51, 52, 53, 54, 55, 56, 57]⟩ : ByteArray).extract ((ji6) : Int).toNat ((wrap64 ((ji6) + 1)) : Int).toNat).size + ((⟨#[48, 49, 50, 51, 52, 53, 54, 55, 56, 57]⟩ : ByteArray).extract ((ji10) : Int).toNat ((wrap64 ((ji10) + 1)) : Int).toNat).size ≤ 9223372036854775807
                · rw [if_pos c14] at H
                  have c14b0 := eq_true c14
                  have c14b1 : decide (((⟨#[48, 49, 50, 51, 52, 53, 54, 55, 56, 57]⟩ : ByteArray).extract ((ji6) : Int).toNat ((wrap64 ((ji6) + 1)) : Int).toNat).size + ((⟨#[48, 49, 50, 51, 52, 53, 54, 55, 56, 57]⟩ : ByteArray).extract ((ji10) : Int).toNat ((wrap64 ((ji10) + 1)) : Int).toNat).size ≤ 9223372036854775807) = true := decide_eq_true c14
                  try have c14b2 : (9223372036854775807 < ((⟨#[48, 49, 50, 51, 52, 53, 54, 55, 56, 57]⟩ : ByteArray).extract ((ji6) : Int).toNat ((wrap64 ((ji6) + 1)) : Int).toNat).size + ((⟨#[48, 49, 50, 51, 52, 53, 54, 55, 56, 57]⟩ : ByteArray).extract ((ji10) : Int).toNat ((wrap64 ((ji10) + 1)) : Int).toNat).size) = False := eq_false (Nat.not_lt.2 c14)
                  try (have c14b3 := c14b2; simp only [ByteArray.size_append, ByteArray.size_extract, (show (⟨#[48, 49, 50, 51, 52, 53, 54, 55, 56, 57]⟩ : ByteArray).size = 10 from rfl)] at c14b3)
                  try (have c14b4 := c14b3; rw [Nat.min_eq_left] at c14b4; rotate_left; focus (simp [*]; done))
                  obtain rfl := Option.some.inj H
                  go_enter Tryz.func15, Tryz.ntmps15
                  go_wp2
                  repeat (go_quiet (fail); try go_wp2)
                  go_ret
                  exact ⟨by first | rfl | (simp; done) | (simp only [← hji6, ← hji10] <;> (first | rfl | simp)) | (simp [*]; done), by repeat (first | exact Drawn0.refl _ | apply Drawn0.step)⟩
                · rw [if_neg c14] at H
                  exact absurd H (by simp)
              · rw [if_neg c13] at H
                exact absurd H (by simp)
            · rw [if_neg c12] at H
              exact absurd H (by simp)
          · rw [if_neg c11] at H
            exact absurd H (by simp)
        · rw [if_neg c9] at H
          exact absurd H (by simp)
      · rw [if_neg c8] at H
        exact absurd H (by simp)
    · rw [if_neg c7] at H
      exact absurd H (by simp)
end Go.Proofs.YtigenhbmgpfffaaGreatDoor.Pa
