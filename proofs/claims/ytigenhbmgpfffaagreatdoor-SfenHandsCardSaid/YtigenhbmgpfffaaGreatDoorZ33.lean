import Derived.Test.YtigenhbmgpfffaaGreatDoorZ13
import Derived.Test.YtigenhbmgpfffaaGreatDoorZ26
import Derived.Test.YtigenhbmgpfffaaGreatDoorZ29
import Derived.Test.YtigenhbmgpfffaaGreatDoorZ31
import Derived.Test.YtigenhbmgpfffaaGreatDoorZ32
namespace Go.Proofs.YtigenhbmgpfffaaGreatDoor.Pa
open Go.RowKit Go.Proofs.YtigenhbmgpfffaaGreatDoorW.PrintWords Go.Proofs.YtigenhbmgpfffaaGreatDoorW.PrintLast Go.Proofs.YtigenhbmgpfffaaGreatDoorW.PrintMore
attribute [local go_sem] max2_int min2_int max_two min_two max_three min_three max_four min_four
set_option linter.unusedVariables false
set_option linter.unusedSimpArgs false
set_option maxRecDepth 100000 in
set_option maxHeartbeats 16000000 in
theorem kakugyolaw13_SfenNumbers.calls (a : List Int) (n : Int) (s x : ByteArray) (w : World) (henv : Env w) (hla : a.length = 98) (hx : sfen_Print.f a 1 = some x)
    (hlaw : x.toList ≠ [] → s.size ≤ 20 → ∃ fr : ByteArray, 1 ≤ x.size ∧ x.size ≤ 100000 ∧ x.extract 0 (x.size - 1) = fr ∧ fr.size ≤ 100000 ∧
      ((1 ≤ n ∧ n ≤ 9999 ∧ ∃ y : ByteArray, sfen_Print.f a n = some y ∧ sfen_Parse.f y = some (a, n, 0) ∧ fr.size ≤ y.size ∧ ((y.extract 0 fr.size).toList == fr.toList) = true) ∨ (¬ (1 ≤ n ∧ n ≤ 9999) ∧ sfen_Print.f a n = some ⟨#[]⟩)) ∧
      ∃ m cs, kakugyolaw13_numberOf.f 100 s = some m ∧ sfen_Parse.f (fr ++ s) = some (cs, m, if m = 0 then 70 else 0) ∧ 0 ≤ m ∧ m ≤ 9999) :
    Calls Tryz.prog 7 #[.agg (value_Of.pv a), .int .i64 n, .string s] w fun e w' => e = .returned (.bool true) ∧ Below w.heap.size w w' := by
  have hz := board_Start.zero
  have HZ : Aside0 ((value_Of.pv board_Start.zl).size = 98) := ⟨by rw [value_Of.pv_size, board_Start.zl_len]⟩
  have EX := Aside0.mk hx; have HLAW := Aside0.mk hlaw; have B1 : (w.alloc (Obj.cells (value_Of.pv a) 28)).heap[w.heap.size]? = some (.cells (value_Of.pv a) 28 (0, 0)) := blk_new w _; have BB : Below w.heap.size w (w.alloc (Obj.cells (value_Of.pv a) 28)) := below_alloc (Below.refl _ _) _; have BE := henv.below BB; have heq : ∀ W, (Op.equalIn 10000 28 (.agg (value_Of.pv a)) (.agg (value_Of.pv a))).run Tryz.prog W = .ok true W := fun W => (eqpos a a W hla hla).trans (by rw [decide_eq_true rfl]); clear hx hlaw henv; go_enter Tryz.func7, Tryz.ntmps7; go_upto_region 1 with (fail); generalize w.alloc (Obj.cells (value_Of.pv a) 28) = W at *; have K1 := Aside0.mk B1; have KB := Aside0.mk BB; have KE := Aside0.mk BE; clear B1 BB BE; go_upto_region 3 with (first | (go_at_call 9; refine (kakugyolaw13_prints.calls _ KE.out).mono ?_; rintro e w7 ⟨rfl, hb⟩; have nK1 := Aside0.mk (blk_below K1.out hb); have nB := Aside0.mk (below_step KB.out hb); have nE := Aside0.mk (KE.out.below hb); clear K1 KB KE hb; have K1 := nK1; have KB := nB; have KE := nE; clear nK1 nB nE)); go_upto_region 4 with (first | ((with_reducible refine gate_dst (N := 19) rfl ?_); refine value_Of.load rfl 28 (.tmp 3) rfl rfl K1.out Tryz.underlying28 rfl value_Of.infoP (by omega) ?_; rw [show (a.drop 0).take 98 = a by rw [List.drop_zero, List.take_of_length_le (by omega)]]) | (go_at_call 10; (with_reducible refine (sfen_Print.print_calls a 1 _ _ KE.out.tab KE.out.pow hla name_le2 EX.out).mono ?_); rintro e w7 ⟨rfl, hb⟩; have nK1 := Aside0.mk (blk_below K1.out hb); have nB := Aside0.mk (below_step KB.out hb); have nE := Aside0.mk (KE.out.below hb); clear K1 KB KE hb; have K1 := nK1; have KB := nB; have KE := nE; clear nK1 nB nE))
  by_cases hx0 : x.toList = []
  · have f0 : (x.toList == []) = true := by rw [hx0]; rfl
    go_wp2; go_ret; exact ⟨rfl, KB.out⟩
  · have f0 : (x.toList == []) = false := by rw [beq_eq_false_iff_ne]; exact hx0
    by_cases hs : s.size ≤ 20
    · have t0 : decide (20 < (s.size : Int)) = false := decide_eq_false (by omega)
      have t0' : (20 < (s.size : Int)) = False := eq_false (by omega); have t0n : (20 < s.size) = False := eq_false (by omega); obtain ⟨fr, hx1, hxs, hfr, hfs, hN, hno⟩ := HLAW.out hx0 hs; have HN := Aside0.mk hno; have HC := Aside0.mk hN; clear HLAW hno hN hx0
      have hw0 : wrap64 ((x.size : Int) - 1) = (x.size : Int) - 1 := by unfold wrap64; omega
      have q1 : 0 ≤ wrap64 ((x.size : Int) - 1) := by omega
      have q2 : wrap64 ((x.size : Int) - 1) ≤ (x.size : Int) := by omega
      go_upto_region 7 with (fail); clear t0 t0' t0n hw0
      (try simp only [hfr])
      rcases HC.out with ⟨n1, n9, y, hy, hpy, hfy, hcut⟩ | ⟨hout, hy⟩
      · have EY := Aside0.mk hy
        have EP := Aside0.mk hpy; clear HC hy hpy; have f1 : decide (1 ≤ n) = true := decide_eq_true n1; have f1' : (1 ≤ n) = True := eq_true n1; have f2 : decide (n ≤ 9999) = true := decide_eq_true n9; have f2' : (n ≤ 9999) = True := eq_true n9; go_upto_region 9 with (first | ((with_reducible refine gate_dst (N := 39) rfl ?_); refine value_Of.load rfl 28 (.tmp 3) rfl rfl K1.out Tryz.underlying28 rfl value_Of.infoP (by omega) ?_; rw [show (a.drop 0).take 98 = a by rw [List.drop_zero, List.take_of_length_le (by omega)]]) | (go_at_call 10; (with_reducible refine (sfen_Print.print_calls a n _ _ KE.out.tab KE.out.pow hla name_le2 EY.out).mono ?_); rintro e w7 ⟨rfl, hb⟩; have nK1 := Aside0.mk (blk_below K1.out hb); have nB := Aside0.mk (below_step KB.out hb); have nE := Aside0.mk (KE.out.below hb); clear K1 KB KE hb; have K1 := nK1; have KB := nB; have KE := nE; clear nK1 nB nE)); go_upto_region 10 with (first | (go_at_call 12; (with_reducible refine (sfen_Parse.parse_calls _ _ _ _ _ KE.out atoi_range EP.out).mono ?_); rintro e w7 ⟨rfl, hlen, hb⟩; have nK1 := Aside0.mk (blk_below K1.out hb); have nB := Aside0.mk (below_step KB.out hb); have nE := Aside0.mk (KE.out.below hb); clear K1 KB KE hb; have K1 := nK1; have KB := nB; have KE := nE; clear nK1 nB nE) | ((with_reducible refine gate_store (t := 28) (p := 10) (v := .tmp 45) rfl ?_); refine value_Of.store rfl 28 (.tmp 10) (.tmp 45) rfl rfl rfl (blk_new _ _) HZ.out hla value_Of.infoP ?_; intro W3 s1 s2 s3; have K10 := Aside0.mk s1; have nK1 := Aside0.mk ((s3 _ (Nat.ne_of_lt (blk_lt K1.out))).trans (blk_alloc K1.out _)); have nB := Aside0.mk (s2 w.heap.size w KB.out.size (below_alloc KB.out _)); have nE := Aside0.mk (KE.out.below (s2 _ _ (Nat.le_refl _) (below_alloc (Below.refl _ _) _))); clear KB KE s1 s2 s3 K1; have K1 := nK1; have KB := nB; have KE := nE; clear nB nE nK1))
        clear EP EY; have u1 : decide ((y.size : Int) < (fr.size : Int)) = false := decide_eq_false (by omega); have u1' : ((y.size : Int) < (fr.size : Int)) = False := eq_false (by omega); have u1n : (y.size < fr.size) = False := eq_false (by omega)
        have u2 : (0 : Int) ≤ (fr.size : Int) := by omega
        have u3 : (fr.size : Int) ≤ (y.size : Int) := by omega
        have u4 : (n == n) = true := beq_self_eq_true n; go_upto_region 14 with (first | ((with_reducible show Oper.wp _ ⟨some 51, _, _, _, _, _⟩ _ _ _ _); refine value_Of.wp_load 28 (.tmp 10) rfl rfl K10.out Tryz.underlying28 rfl value_Of.infoP (by omega) ?_; rw [show (a.drop 0).take 98 = a by rw [List.drop_zero, List.take_of_length_le (by omega)]]) | ((with_reducible show Oper.wp _ ⟨some 52, _, _, _, _, _⟩ _ _ _ _); refine value_Of.wp_load 28 (.tmp 3) rfl rfl K1.out Tryz.underlying28 rfl value_Of.infoP (by omega) ?_; rw [show (a.drop 0).take 98 = a by rw [List.drop_zero, List.take_of_length_le (by omega)]])); clear u1 u1' u1n u2 u3 u4 f1 f1' f2 f2'; obtain ⟨m, cs, hno, hpa, hm0, hm9⟩ := HN.out; have HNO := Aside0.mk hno; have HPA := Aside0.mk hpa; clear HN hno hpa; go_upto_region 15 with (first | (go_at_call 14; (with_reducible refine (kakugyolaw13_numberOf.calls _ _ _ _ HNO.out).mono ?_); rintro e w7 ⟨rfl, hd⟩; have hb := hd.below; clear hd; have nK1 := Aside0.mk (blk_below K1.out hb); have nK10 := Aside0.mk (blk_below K10.out hb); have nB := Aside0.mk (below_step KB.out hb); have nE := Aside0.mk (KE.out.below hb); clear K1 K10 KB KE hb; have K1 := nK1; have K10 := nK10; have KB := nB; have KE := nE; clear nK1 nK10 nB nE))
        by_cases hm : m = 0
        · subst hm
          have HP := HPA.out; rw [if_pos rfl] at HP; have HPB := Aside0.mk HP; clear HPA HP
          go_wp2_with (first | (go_at_call 12; (with_reducible refine (sfen_Parse.parse_calls _ _ _ _ _ KE.out atoi_range HPB.out).mono ?_); rintro e w7 ⟨rfl, hlen, hb⟩; have hlc := hlen; have nK1 := Aside0.mk (blk_below K1.out hb); have nK10 := Aside0.mk (blk_below K10.out hb); have nB := Aside0.mk (below_step KB.out hb); have nE := Aside0.mk (KE.out.below hb); clear K1 K10 KB KE hb; have K1 := nK1; have K10 := nK10; have KB := nB; have KE := nE; clear nK1 nK10 nB nE) | ((with_reducible refine gate_store (t := 28) (p := 14) (v := .tmp 86) rfl ?_); refine value_Of.store rfl 28 (.tmp 14) (.tmp 86) rfl rfl rfl (blk_new _ _) HZ.out hlc value_Of.infoP ?_; intro W3 s1 s2 s3; have K14 := Aside0.mk s1; have nK1 := Aside0.mk ((s3 _ (Nat.ne_of_lt (blk_lt K1.out))).trans (blk_alloc K1.out _)); have nK10 := Aside0.mk ((s3 _ (Nat.ne_of_lt (blk_lt K10.out))).trans (blk_alloc K10.out _)); have nB := Aside0.mk (s2 w.heap.size w KB.out.size (below_alloc KB.out _)); have nE := Aside0.mk (KE.out.below (s2 _ _ (Nat.le_refl _) (below_alloc (Below.refl _ _) _))); clear KB KE s1 s2 s3 K1 K10; have K1 := nK1; have K10 := nK10; have KB := nB; have KE := nE; clear nB nE nK1 nK10))
          go_ret; exact ⟨rfl, KB.out⟩
        · have HP := HPA.out
          rw [if_neg hm] at HP; have HPB := Aside0.mk HP; clear HPA HP; have f1 : (0 < m) = True := eq_true (by omega); have f2 : decide (0 < m) = true := decide_eq_true (by omega); have f3 : (m == m) = true := beq_self_eq_true m
          go_wp2_with (first | (go_at_call 12; (with_reducible refine (sfen_Parse.parse_calls _ _ _ _ _ KE.out atoi_range HPB.out).mono ?_); rintro e w7 ⟨rfl, hlen, hb⟩; have hlc := hlen; have nK1 := Aside0.mk (blk_below K1.out hb); have nK10 := Aside0.mk (blk_below K10.out hb); have nB := Aside0.mk (below_step KB.out hb); have nE := Aside0.mk (KE.out.below hb); clear K1 K10 KB KE hb; have K1 := nK1; have K10 := nK10; have KB := nB; have KE := nE; clear nK1 nK10 nB nE) | ((with_reducible refine gate_store (t := 28) (p := 14) (v := .tmp 86) rfl ?_); refine value_Of.store rfl 28 (.tmp 14) (.tmp 86) rfl rfl rfl (blk_new _ _) HZ.out hlc value_Of.infoP ?_; intro W3 s1 s2 s3; have K14 := Aside0.mk s1; have nK1 := Aside0.mk ((s3 _ (Nat.ne_of_lt (blk_lt K1.out))).trans (blk_alloc K1.out _)); have nK10 := Aside0.mk ((s3 _ (Nat.ne_of_lt (blk_lt K10.out))).trans (blk_alloc K10.out _)); have nB := Aside0.mk (s2 w.heap.size w KB.out.size (below_alloc KB.out _)); have nE := Aside0.mk (KE.out.below (s2 _ _ (Nat.le_refl _) (below_alloc (Below.refl _ _) _))); clear KB KE s1 s2 s3 K1 K10; have K1 := nK1; have K10 := nK10; have KB := nB; have KE := nE; clear nB nE nK1 nK10))
          go_ret; exact ⟨rfl, KB.out⟩
      · have EY := Aside0.mk hy
        clear HC hy
        by_cases n1 : 1 ≤ n
        · have n9 : ¬ n ≤ 9999 := fun h => hout ⟨n1, h⟩
          have f1 : decide (1 ≤ n) = true := decide_eq_true n1; have f1' : (1 ≤ n) = True := eq_true n1; have f2 : decide (n ≤ 9999) = false := decide_eq_false n9; have f2' : (n ≤ 9999) = False := eq_false n9; go_upto_region 14 with (first | ((with_reducible refine gate_dst (N := 75) rfl ?_); refine value_Of.load rfl 28 (.tmp 3) rfl rfl K1.out Tryz.underlying28 rfl value_Of.infoP (by omega) ?_; rw [show (a.drop 0).take 98 = a by rw [List.drop_zero, List.take_of_length_le (by omega)]]) | (go_at_call 10; (with_reducible refine (sfen_Print.print_calls a n _ _ KE.out.tab KE.out.pow hla name_le2 EY.out).mono ?_); rintro e w7 ⟨rfl, hb⟩; have nK1 := Aside0.mk (blk_below K1.out hb); have nB := Aside0.mk (below_step KB.out hb); have nE := Aside0.mk (KE.out.below hb); clear K1 KB KE hb; have K1 := nK1; have KB := nB; have KE := nE; clear nK1 nB nE)); clear f1 f1' f2 f2'; obtain ⟨m, cs, hno, hpa, hm0, hm9⟩ := HN.out; have HNO := Aside0.mk hno; have HPA := Aside0.mk hpa; clear HN hno hpa; go_upto_region 15 with (first | (go_at_call 14; (with_reducible refine (kakugyolaw13_numberOf.calls _ _ _ _ HNO.out).mono ?_); rintro e w7 ⟨rfl, hd⟩; have hb := hd.below; clear hd; have nK1 := Aside0.mk (blk_below K1.out hb); have nB := Aside0.mk (below_step KB.out hb); have nE := Aside0.mk (KE.out.below hb); clear K1 KB KE hb; have K1 := nK1; have KB := nB; have KE := nE; clear nK1 nB nE))
          by_cases hm : m = 0
          · subst hm
            have HP := HPA.out; rw [if_pos rfl] at HP; have HPB := Aside0.mk HP; clear HPA HP
            go_wp2_with (first | (go_at_call 12; (with_reducible refine (sfen_Parse.parse_calls _ _ _ _ _ KE.out atoi_range HPB.out).mono ?_); rintro e w7 ⟨rfl, hlen, hb⟩; have hlc := hlen; have nK1 := Aside0.mk (blk_below K1.out hb); have nB := Aside0.mk (below_step KB.out hb); have nE := Aside0.mk (KE.out.below hb); clear K1 KB KE hb; have K1 := nK1; have KB := nB; have KE := nE; clear nK1 nB nE) | ((with_reducible refine gate_store (t := 28) (p := 14) (v := .tmp 86) rfl ?_); refine value_Of.store rfl 28 (.tmp 14) (.tmp 86) rfl rfl rfl (blk_new _ _) HZ.out hlc value_Of.infoP ?_; intro W3 s1 s2 s3; have K14 := Aside0.mk s1; have nK1 := Aside0.mk ((s3 _ (Nat.ne_of_lt (blk_lt K1.out))).trans (blk_alloc K1.out _)); have nB := Aside0.mk (s2 w.heap.size w KB.out.size (below_alloc KB.out _)); have nE := Aside0.mk (KE.out.below (s2 _ _ (Nat.le_refl _) (below_alloc (Below.refl _ _) _))); clear KB KE s1 s2 s3 K1; have K1 := nK1; have KB := nB; have KE := nE; clear nB nE nK1))
            go_ret; exact ⟨rfl, KB.out⟩
          · have HP := HPA.out
            rw [if_neg hm] at HP; have HPB := Aside0.mk HP; clear HPA HP; have f1 : (0 < m) = True := eq_true (by omega); have f2 : decide (0 < m) = true := decide_eq_true (by omega); have f3 : (m == m) = true := beq_self_eq_true m
            go_wp2_with (first | (go_at_call 12; (with_reducible refine (sfen_Parse.parse_calls _ _ _ _ _ KE.out atoi_range HPB.out).mono ?_); rintro e w7 ⟨rfl, hlen, hb⟩; have hlc := hlen; have nK1 := Aside0.mk (blk_below K1.out hb); have nB := Aside0.mk (below_step KB.out hb); have nE := Aside0.mk (KE.out.below hb); clear K1 KB KE hb; have K1 := nK1; have KB := nB; have KE := nE; clear nK1 nB nE) | ((with_reducible refine gate_store (t := 28) (p := 14) (v := .tmp 86) rfl ?_); refine value_Of.store rfl 28 (.tmp 14) (.tmp 86) rfl rfl rfl (blk_new _ _) HZ.out hlc value_Of.infoP ?_; intro W3 s1 s2 s3; have K14 := Aside0.mk s1; have nK1 := Aside0.mk ((s3 _ (Nat.ne_of_lt (blk_lt K1.out))).trans (blk_alloc K1.out _)); have nB := Aside0.mk (s2 w.heap.size w KB.out.size (below_alloc KB.out _)); have nE := Aside0.mk (KE.out.below (s2 _ _ (Nat.le_refl _) (below_alloc (Below.refl _ _) _))); clear KB KE s1 s2 s3 K1; have K1 := nK1; have KB := nB; have KE := nE; clear nB nE nK1))
            go_ret; exact ⟨rfl, KB.out⟩
        · have f1 : decide (1 ≤ n) = false := decide_eq_false n1
          have f1' : (1 ≤ n) = False := eq_false n1; go_upto_region 14 with (first | ((with_reducible refine gate_dst (N := 75) rfl ?_); refine value_Of.load rfl 28 (.tmp 3) rfl rfl K1.out Tryz.underlying28 rfl value_Of.infoP (by omega) ?_; rw [show (a.drop 0).take 98 = a by rw [List.drop_zero, List.take_of_length_le (by omega)]]) | (go_at_call 10; (with_reducible refine (sfen_Print.print_calls a n _ _ KE.out.tab KE.out.pow hla name_le2 EY.out).mono ?_); rintro e w7 ⟨rfl, hb⟩; have nK1 := Aside0.mk (blk_below K1.out hb); have nB := Aside0.mk (below_step KB.out hb); have nE := Aside0.mk (KE.out.below hb); clear K1 KB KE hb; have K1 := nK1; have KB := nB; have KE := nE; clear nK1 nB nE)); clear f1 f1'; obtain ⟨m, cs, hno, hpa, hm0, hm9⟩ := HN.out; have HNO := Aside0.mk hno; have HPA := Aside0.mk hpa; clear HN hno hpa; go_upto_region 15 with (first | (go_at_call 14; (with_reducible refine (kakugyolaw13_numberOf.calls _ _ _ _ HNO.out).mono ?_); rintro e w7 ⟨rfl, hd⟩; have hb := hd.below; clear hd; have nK1 := Aside0.mk (blk_below K1.out hb); have nB := Aside0.mk (below_step KB.out hb); have nE := Aside0.mk (KE.out.below hb); clear K1 KB KE hb; have K1 := nK1; have KB := nB; have KE := nE; clear nK1 nB nE))
          by_cases hm : m = 0
          · subst hm
            have HP := HPA.out; rw [if_pos rfl] at HP; have HPB := Aside0.mk HP; clear HPA HP
            go_wp2_with (first | (go_at_call 12; (with_reducible refine (sfen_Parse.parse_calls _ _ _ _ _ KE.out atoi_range HPB.out).mono ?_); rintro e w7 ⟨rfl, hlen, hb⟩; have hlc := hlen; have nK1 := Aside0.mk (blk_below K1.out hb); have nB := Aside0.mk (below_step KB.out hb); have nE := Aside0.mk (KE.out.below hb); clear K1 KB KE hb; have K1 := nK1; have KB := nB; have KE := nE; clear nK1 nB nE) | ((with_reducible refine gate_store (t := 28) (p := 14) (v := .tmp 86) rfl ?_); refine value_Of.store rfl 28 (.tmp 14) (.tmp 86) rfl rfl rfl (blk_new _ _) HZ.out hlc value_Of.infoP ?_; intro W3 s1 s2 s3; have K14 := Aside0.mk s1; have nK1 := Aside0.mk ((s3 _ (Nat.ne_of_lt (blk_lt K1.out))).trans (blk_alloc K1.out _)); have nB := Aside0.mk (s2 w.heap.size w KB.out.size (below_alloc KB.out _)); have nE := Aside0.mk (KE.out.below (s2 _ _ (Nat.le_refl _) (below_alloc (Below.refl _ _) _))); clear KB KE s1 s2 s3 K1; have K1 := nK1; have KB := nB; have KE := nE; clear nB nE nK1))
            go_ret; exact ⟨rfl, KB.out⟩
          · have HP := HPA.out
            rw [if_neg hm] at HP; have HPB := Aside0.mk HP; clear HPA HP; have f1 : (0 < m) = True := eq_true (by omega); have f2 : decide (0 < m) = true := decide_eq_true (by omega); have f3 : (m == m) = true := beq_self_eq_true m
            go_wp2_with (first | (go_at_call 12; (with_reducible refine (sfen_Parse.parse_calls _ _ _ _ _ KE.out atoi_range HPB.out).mono ?_); rintro e w7 ⟨rfl, hlen, hb⟩; have hlc := hlen; have nK1 := Aside0.mk (blk_below K1.out hb); have nB := Aside0.mk (below_step KB.out hb); have nE := Aside0.mk (KE.out.below hb); clear K1 KB KE hb; have K1 := nK1; have KB := nB; have KE := nE; clear nK1 nB nE) | ((with_reducible refine gate_store (t := 28) (p := 14) (v := .tmp 86) rfl ?_); refine value_Of.store rfl 28 (.tmp 14) (.tmp 86) rfl rfl rfl (blk_new _ _) HZ.out hlc value_Of.infoP ?_; intro W3 s1 s2 s3; have K14 := Aside0.mk s1; have nK1 := Aside0.mk ((s3 _ (Nat.ne_of_lt (blk_lt K1.out))).trans (blk_alloc K1.out _)); have nB := Aside0.mk (s2 w.heap.size w KB.out.size (below_alloc KB.out _)); have nE := Aside0.mk (KE.out.below (s2 _ _ (Nat.le_refl _) (below_alloc (Below.refl _ _) _))); clear KB KE s1 s2 s3 K1; have K1 := nK1; have KB := nB; have KE := nE; clear nB nE nK1))
            go_ret; exact ⟨rfl, KB.out⟩
    · have t0 : decide (20 < (s.size : Int)) = true := decide_eq_true (by omega)
      have t0' : (20 < (s.size : Int)) = True := eq_true (by omega); have t0n : (20 < s.size) = True := eq_true (by omega); go_wp2; go_ret; exact ⟨rfl, KB.out⟩
theorem pv_wp_store {o : Oper} {a : Act} {W : World} {K : Act → World → Prop} {Q : Exit → Act → World → Prop} (ty : TypeId) (x y : Operand) (ho : o.op = .store ty x y) {g n : Nat} {t : TypeId} {l : List Int} {C : Array Value} (hx : a.eval x = .pointer (some ⟨g, 0, none⟩)) (hy : a.eval y = .agg (value_Of.pv l)) (hb : W.heap[g]? = some (.cells C t (0, 0))) (hC : C.size = n) (hl : l.length = n) (hi : (Tryz.prog.info? ty).map (·.size) = some n)
    (h : ∀ W', W'.heap[g]? = some (.cells (value_Of.pv l) t (0, 0)) → (∀ B w0, B ≤ g → Below B w0 W → Below B w0 W') → K (a.put o.dst undef) W') : Oper.wp Tryz.prog o a W K Q := by
  have hsz : (value_Of.pv l).size = n := by rw [value_Of.pv_size, hl]
  refine wp_store_mid _ x y ho g 0 (value_Of.pv l) hx hy (value_Of.thr hb _ (by omega)) (by rw [hi, hsz]) (value_Of.pv_one l) ?_; obtain ⟨cur', h1, h2, h3⟩ := setCells_row (value_Of.pv l).toList 0 W C hb (by rw [Array.length_toList]; omega)
  have e : cur' = value_Of.pv l := by
    apply Array.toList_inj.1
    rw [h3]; simp only [List.take_zero, List.nil_append, Nat.zero_add]; rw [List.drop_of_length_le (by rw [Array.length_toList, Array.length_toList]; omega), List.append_nil]
  rw [e] at h1; exact h _ h1 (fun B w0 hB hb0 => below_setCells hB _ 0 W hb0)
theorem cvt1 (v : World) (n : Int) : (convert 39 9 (.slice (some ⟨v.heap.size, 0, none⟩) 1 1)).run Tryz.prog (v.alloc (Obj.cells #[.int .u8 n] 5)).drew = .ok (.string (strOfNums [n])) (v.alloc (Obj.cells #[.int .u8 n] 5)).drew :=
  run_convert_bytes_arg _ 39 5 Tryz.underlying39 Tryz.underlying5 v.heap.size 0 1 1 [n] rfl (fun i hi => by
    obtain rfl : i = 0 := by omega
    exact blk_cell (blk_drew (blk_new v (Obj.cells #[.int .u8 n] 5))) 0) 9 Tryz.underlying9
theorem pos_wp_alloc {o : Oper} {a : Act} {W : World} {K : Act → World → Prop} {Q : Exit → Act → World → Prop} (ho : o.op = .alloc 28)
    (h : ∀ W' g, W'.heap[g]? = some (.cells (value_Of.pv board_Start.zl) 28 (0, 0)) → W.heap.size ≤ g → (∀ w0 : World, Below w0.heap.size w0 W → Below w0.heap.size w0 W') → K (a.put o.dst (.pointer (some ⟨g, 0, none⟩))) W') : Oper.wp Tryz.prog o a W K Q := by
  have hz := board_Start.zero; have h1 := h (W.alloc (Obj.cells (value_Of.pv board_Start.zl) 28)) W.heap.size (blk_new W _) (Nat.le_refl _) (fun w0 hb => below_alloc hb _); unfold Oper.wp execOp; simp only [ho]; go_simp; exact h1
set_option maxRecDepth 100000 in
set_option maxHeartbeats 16000000 in
theorem kakugyolaw13_SfenBroken.calls (a : List Int) (turn : Int) (x : ByteArray) (w : World) (henv : Env w) (hla : a.length = 98) (ht0 : 0 ≤ turn) (ht9 : turn ≤ 255) (hx : sfen_Print.f a 7 = some x)
    (hlaw : x.toList ≠ [] → x.size ≤ 150 ∧ (∃ j : Nat, j < x.size ∧ bt x j = 32) ∧
      (∀ i : Nat, i < x.size → bt x i = 32 → (∃ cs, sfen_Parse.f (x.extract 0 i) = some (cs, 0, 70)) ∧ (∃ cs, sfen_Parse.f (x.extract 0 i ++ ⟨#[32]⟩ ++ x.extract i x.size) = some (cs, 0, 70))) ∧
      (∀ i : Nat, i < x.size → bt x i = 32 → (∀ j : Nat, j < i → bt x j ≠ 32) → i + 2 ≤ x.size ∧ ∃ cs n e, sfen_Parse.f (x.extract 0 (i + 1) ++ strOfNums [turn] ++ x.extract (i + 2) x.size) = some (cs, n, e) ∧ (turn = 98 ∨ turn = 119 ∨ e = 70))) :
    Calls Tryz.prog 6 #[.agg (value_Of.pv a), .int .u8 turn] w fun e w' => e = .returned (.bool true) ∧ Below w.heap.size w w' := by
  have hz := board_Start.zero
  have HZ : Aside0 ((value_Of.pv board_Start.zl).size = 98) := ⟨by rw [value_Of.pv_size, board_Start.zl_len]⟩
  have EX := Aside0.mk hx; have HLAW := Aside0.mk hlaw; have HE0 := Aside0.mk henv; have B1 : (w.alloc (Obj.cells (value_Of.pv a) 28)).heap[w.heap.size]? = some (.cells (value_Of.pv a) 28 (0, 0)) := blk_new w _; have BB : Below w.heap.size w (w.alloc (Obj.cells (value_Of.pv a) 28)) := below_alloc (Below.refl _ _) _; clear hx hlaw henv; go_enter Tryz.func6, Tryz.ntmps6; go_upto_region 1 with (fail); generalize w.alloc (Obj.cells (value_Of.pv a) 28) = W at *; have K1 := Aside0.mk B1; have KB := Aside0.mk BB; clear B1 BB; go_upto_region 3 with (first | (go_at_call 9; refine (kakugyolaw13_prints.calls _ (HE0.out.below KB.out)).mono ?_; rintro e w7 ⟨rfl, hb⟩; have nK1 := Aside0.mk (blk_below K1.out hb); have nB := Aside0.mk (below_step KB.out hb); clear K1 KB hb; have K1 := nK1; have KB := nB; clear nK1 nB)); go_upto_region 4 with (first | ((with_reducible refine gate_dst (N := 20) rfl ?_); refine value_Of.load rfl 28 (.tmp 2) rfl rfl K1.out Tryz.underlying28 rfl value_Of.infoP (by omega) ?_; rw [show (a.drop 0).take 98 = a by rw [List.drop_zero, List.take_of_length_le (by omega)]]) | (go_at_call 10; (with_reducible refine (sfen_Print.print_calls a 7 _ _ (HE0.out.below KB.out).tab (HE0.out.below KB.out).pow hla name_le2 EX.out).mono ?_); rintro e w7 ⟨rfl, hb⟩; have nK1 := Aside0.mk (blk_below K1.out hb); have nB := Aside0.mk (below_step KB.out hb); clear K1 KB hb; have K1 := nK1; have KB := nB; clear nK1 nB)); clear K1
  by_cases hx0 : x.toList = []
  · have f0 : (x.toList == []) = true := by rw [hx0]; rfl
    go_wp2; go_ret; exact ⟨rfl, KB.out⟩
  · have f0 : (x.toList == []) = false := by rw [beq_eq_false_iff_ne]; exact hx0
    obtain ⟨hxs, hsome, h1, h2⟩ := HLAW.out hx0; have HSM := Aside0.mk hsome; have H1 := Aside0.mk h1; have H2 := Aside0.mk h2; clear HLAW hx0 hsome h1 h2; go_wp2
    go_loopg [26] (x.size + 1) (fun gf s26 wx => ∃ (i : Nat), s26 = .int .i64 i ∧ i ≤ x.size ∧ Aside0 (Below w.heap.size w wx) ∧ x.size + 1 ≤ gf + i)
    case atStart => exact ⟨0, rfl, by omega, KB, by omega⟩
    case round =>
      clear KB; obtain ⟨i, rfl, hi, KB, hgi⟩ := hrel
      by_cases hend : i = x.size
      · subst hend
        clear H1; go_wp2
        go_loopg [64] (x.size + 1) (fun gf s64 wx => ∃ (i : Nat), s64 = .int .i64 i ∧ i ≤ x.size ∧ Aside0 (∀ j : Nat, j < i → bt x j ≠ 32) ∧ Aside0 (Below w.heap.size w wx) ∧ x.size + 1 ≤ gf + i)
        case atStart => exact ⟨0, rfl, by omega, ⟨fun j h => absurd h (Nat.not_lt_zero _)⟩, KB, by omega⟩
        case round =>
          clear KB; obtain ⟨i, rfl, hi, HJ, KB, hgi⟩ := hrel
          by_cases hend : i = x.size
          · obtain ⟨j, hj, hb⟩ := HSM.out
            exact absurd hb (HJ.out j (by omega))
          · have hlt : i < x.size := by omega
            have b0 : decide ((i : Int) < (x.size : Int)) = true := decide_eq_true (by omega); have b1 : ((i : Int) < (x.size : Int)) = True := eq_true (by omega); have b2 : (i < x.size) = True := eq_true (by omega); have b3 : (0 ≤ (i : Int)) = True := eq_true (by omega); have hbx : ∀ h : i < x.size, ((x[i]'h).toNat : Int) = bt x i := bt_at x i; have ewi : IntKind.i64.wrap ((i : Int) + 1) = (i : Int) + 1 := IntWalk.i64_in _ (by omega)
            obtain ⟨g', rfl⟩ : ∃ g', gk = g' + 1 := ⟨gk - 1, by omega⟩
            by_cases hc : bt x i = 32
            · have c0 : (bt x i == 32) = true := by rw [hc]; rfl
              obtain ⟨hi2, cs3, n3, e3, hp3, hor⟩ := H2.out i hlt hc HJ.out; have HP3 := Aside0.mk hp3; have HOR := Aside0.mk hor; clear hp3 hor; have y1 : ((i : Int) + 1 ≤ (x.size : Int)) = True := eq_true (by omega); have y2 : ((i : Int) + 2 ≤ (x.size : Int)) = True := eq_true (by omega); have y3 : (i + 1 ≤ x.size) = True := eq_true (by omega); have y4 : (i + 2 ≤ x.size) = True := eq_true (by omega); have y5 : (0 ≤ (i : Int) + 1) = True := eq_true (by omega); have y6 : (0 ≤ (i : Int) + 2) = True := eq_true (by omega); have y7 : IntKind.i64.wrap ((i : Int) + 2) = (i : Int) + 2 := IntWalk.i64_in _ (by omega)
              have y8 : ((i : Int) + 1).toNat = i + 1 := by omega
              have y9 : ((i : Int) + 2).toNat = i + 2 := by omega
              have z1 : (x.extract 0 (i + 1)).size ≤ 1000 := by rw [ByteArray.size_extract]; omega
              have z2 : (x.extract (i + 2) x.size).size ≤ 1000 := by rw [ByteArray.size_extract]; omega
              have z3 : (strOfNums [turn]).size = 1 := rfl; have v1 : (9223372036854775807 < i + 1 + 1) = False := eq_false (by omega); have v2 : (9223372036854775807 < i + 1 + 1 + (x.size - (i + 2))) = False := eq_false (by omega); have v3 : (9223372036854775807 < x.size) = False := eq_false (by omega); go_upto_region 22 with (fail); go_cut [14] (fun s14 wx => s14 = .string (x.extract 0 (i + 1) ++ strOfNums [turn] ++ x.extract (i + 2) x.size) ∧ Aside0 (Below w.heap.size w wx))
              case first =>
                have KB0 := KB; clear KB; have hcv := cvt1; refine wp_region_held_drew (S := fun _ => True) (by kernel_rfl) trivial (fun _ => ?_); refine tk 0 ?_; refine tk 1 ?_; refine tk 2 ?_; refine tk 3 ?_; refine tk 4 ?_; refine tk 8 ?_; refine tk 9 ?_; refine tk 10 ?_; refine tk 11 ?_; refine on1 5 (fun K hK => ?_); show (if Region.wanted ⟨some 76, .buildSlice _ _ _, _, _, _, none⟩ _ = true then Oper.wp _ ⟨some 76, .buildSlice _ _ _, _, _, _, none⟩ _ _ _ _ else _); go_simp; refine ko hK ?_; clear hK K; refine on1 6 (fun K hK => ?_); show (if Region.wanted ⟨some 77, .convert _ _ _, _, _, _, none⟩ _ = true then Oper.wp _ ⟨some 77, .convert _ _ _, _, _, _, none⟩ _ _ _ _ else _); go_simp; refine ko hK ?_; clear hK K; refine tk 7 ?_; refine tk 12 ?_; refine tk 13 ?_; refine wpAnyH_done (by kernel_rfl) ?_ _; go_wp2; go_meet; exact ⟨rfl, ⟨below_drew (below_alloc KB0.out _)⟩⟩
              case rest =>
                clear KB; obtain ⟨rfl, KB⟩ := hcut; go_upto_region 24 with (first | (go_at_call 12; (with_reducible refine (sfen_Parse.parse_calls _ _ _ _ _ (HE0.out.below KB.out) atoi_range HP3.out).mono ?_); rintro e w7 ⟨rfl, hlen, hb⟩; have hlc := hlen; have nB := Aside0.mk (below_step KB.out hb); clear  KB hb; have KB := nB; clear  nB) | ((with_reducible refine gate_store (t := 28) (p := 15) (v := .tmp 87) rfl ?_); refine value_Of.store rfl 28 (.tmp 15) (.tmp 87) rfl rfl rfl (blk_new _ _) HZ.out hlc value_Of.infoP ?_; intro W3 s1 s2 s3; have nB := Aside0.mk (s2 w.heap.size w KB.out.size (below_alloc KB.out _)); clear KB s1 s2 s3; have KB := nB; clear nB))
                by_cases e98 : turn = 98
                · have w0 : (turn == 98) = true := by rw [e98]; rfl
                  go_wp2; go_ret; exact ⟨rfl, KB.out⟩
                · have w0 : (turn == 98) = false := by rw [beq_eq_false_iff_ne]; exact e98
                  by_cases e119 : turn = 119
                  · have w1 : (turn == 119) = true := by rw [e119]; rfl
                    go_wp2; go_ret; exact ⟨rfl, KB.out⟩
                  · have w1 : (turn == 119) = false := by rw [beq_eq_false_iff_ne]; exact e119
                    obtain rfl : e3 = 70 := (HOR.out.resolve_left e98).resolve_left e119; go_wp2; go_ret; exact ⟨rfl, KB.out⟩
            · have c0 : (bt x i == 32) = false := by rw [beq_eq_false_iff_ne]; exact hc
              go_wp2
              go_roundg g'
              case measure => omega
              case rel =>
                refine ⟨i + 1, by simp, by omega, ⟨fun j hj => ?_⟩, KB, by omega⟩
                by_cases e : j = i
                · rw [e]; exact hc
                · exact HJ.out j (by omega)
      · have hlt : i < x.size := by omega
        have b0 : decide ((i : Int) < (x.size : Int)) = true := decide_eq_true (by omega); have b1 : ((i : Int) < (x.size : Int)) = True := eq_true (by omega); have b2 : (i < x.size) = True := eq_true (by omega); have b3 : (0 ≤ (i : Int)) = True := eq_true (by omega); have hbx : ∀ h : i < x.size, ((x[i]'h).toNat : Int) = bt x i := bt_at x i; have ewi : IntKind.i64.wrap ((i : Int) + 1) = (i : Int) + 1 := IntWalk.i64_in _ (by omega)
        obtain ⟨g', rfl⟩ : ∃ g', gk = g' + 1 := ⟨gk - 1, by omega⟩
        by_cases hc : bt x i = 32
        · have c0 : (bt x i == 32) = true := by rw [hc]; rfl
          have c1 : (bt x i != 32) = false := by rw [hc]; rfl
          obtain ⟨⟨cs1, hp1⟩, cs2, hp2⟩ := H1.out i hlt hc; have HP1 := Aside0.mk hp1; have HP2 := Aside0.mk hp2; clear hp1 hp2; have t0 : decide ((x.size : Int) < 200) = true := decide_eq_true (by omega); have t1 : ((x.size : Int) < 200) = True := eq_true (by omega); have t2 : (x.size < 200) = True := eq_true (by omega)
          have z1 : (x.extract 0 i).size ≤ 1000 := by rw [ByteArray.size_extract]; omega
          have z2 : (x.extract i x.size).size ≤ 1000 := by rw [ByteArray.size_extract]; omega
          have v1 : (9223372036854775807 < i + 1) = False := eq_false (by omega); have v2 : (9223372036854775807 < i + 1 + (x.size - i)) = False := eq_false (by omega); go_upto_region 14 with (first | (go_at_call 12; (with_reducible refine (sfen_Parse.parse_calls _ _ _ _ _ (HE0.out.below KB.out) atoi_range HP1.out).mono ?_); rintro e w7 ⟨rfl, hlen, hb⟩; have hlc := hlen; have nB := Aside0.mk (below_step KB.out hb); clear  KB hb; have KB := nB; clear  nB) | ((with_reducible refine gate_store (t := 28) (p := 7) (v := .tmp 38) rfl ?_); refine value_Of.store rfl 28 (.tmp 7) (.tmp 38) rfl rfl rfl (blk_new _ _) HZ.out hlc value_Of.infoP ?_; intro W3 s1 s2 s3; have nB := Aside0.mk (s2 w.heap.size w KB.out.size (below_alloc KB.out _)); clear KB s1 s2 s3; have KB := nB; clear nB)); go_cut [12] (fun s12 wx => s12 = .int .i64 70 ∧ Aside0 (Below w.heap.size w wx))
          case first =>
            refine wp_region_held_drew (S := fun _ => True) (by kernel_rfl) trivial (fun _ => ?_); have nB := Aside0.mk (below_drew KB.out); clear KB; have KB := nB; clear nB; refine tk 0 ?_; refine tk 1 ?_; refine tk 2 ?_; refine tk 3 ?_; refine tk 4 ?_; refine tk 5 ?_; refine tk 6 ?_; refine tk 7 ?_; refine wpAnyH_ready (rs := [8, 13]) (by kernel_rfl) (by simp) ?_; refine AllReadyH.cons rfl (fun K hK => ?_) ?_
            · show (if Region.wanted ⟨some 55, .call _, _, _, _, none⟩ _ = true then Oper.wp _ ⟨some 55, .call _, _, _, _, none⟩ _ _ _ _ else _)
              go_simp; refine (sfen_Parse.parse_calls _ _ _ _ _ (HE0.out.below KB.out) atoi_range HP2.out).mono ?_; rintro e w7 ⟨rfl, hlen, hb⟩; have nB := Aside0.mk (below_step KB.out hb); clear  KB hb; have KB := nB; clear  nB; refine ko hK ?_; clear hK K; refine tk 9 ?_; refine tk 10 ?_; refine tk 11 ?_; refine tk 12 ?_; refine on1 13 (fun K hK => ?_); show (if Region.wanted ⟨some 10, .alloc 28, _, _, _, none⟩ _ = true then Oper.wp _ ⟨some 10, .alloc 28, _, _, _, none⟩ _ _ _ _ else _); rw [if_pos (by rfl)]; refine pos_wp_alloc rfl ?_; intro W3 gz s1 s2 s3; have KZ := Aside0.mk s1; have HGZ := Aside0.mk (Nat.le_trans KB.out.size s2); have nB := Aside0.mk (s3 _ KB.out); clear KB s1 s2 s3; have KB := nB; clear nB; refine ko hK ?_; clear hK K; refine on1 14 (fun K hK => ?_); show (if Region.wanted ⟨none, .store 28 (.tmp 10) (.tmp 56), _, _, _, none⟩ _ = true then Oper.wp _ ⟨none, .store 28 (.tmp 10) (.tmp 56), _, _, _, none⟩ _ _ _ _ else _); rw [if_pos (by rfl)]; refine pv_wp_store 28 (.tmp 10) (.tmp 56) rfl rfl rfl KZ.out HZ.out hlen value_Of.infoP ?_; intro W3 s1 s2; have nB := Aside0.mk (s2 w.heap.size w HGZ.out KB.out); clear KB s1 s2; have KB := nB; clear nB; refine ko hK ?_; clear hK K; refine tk 15 ?_; refine tk 16 ?_; refine wpAnyH_done (by kernel_rfl) ?_ _; go_wp2; go_meet; exact ⟨rfl, KB⟩
            refine AllReadyH.cons rfl (fun K hK => ?_) AllReadyH.nil; show (if Region.wanted ⟨some 10, .alloc 28, _, _, _, none⟩ _ = true then Oper.wp _ ⟨some 10, .alloc 28, _, _, _, none⟩ _ _ _ _ else _); rw [if_pos (by rfl)]; refine pos_wp_alloc rfl ?_; intro W3 gz s1 s2 s3; have KZ := Aside0.mk s1; have HGZ := Aside0.mk (Nat.le_trans KB.out.size s2); have nB := Aside0.mk (s3 _ KB.out); clear KB s1 s2 s3; have KB := nB; clear nB; refine ko hK ?_; clear hK K; refine on1 8 (fun K hK => ?_); show (if Region.wanted ⟨some 55, .call _, _, _, _, none⟩ _ = true then Oper.wp _ ⟨some 55, .call _, _, _, _, none⟩ _ _ _ _ else _); go_simp; refine (sfen_Parse.parse_calls _ _ _ _ _ (HE0.out.below KB.out) atoi_range HP2.out).mono ?_; rintro e w7 ⟨rfl, hlen, hb⟩; have nKZ := Aside0.mk (blk_below KZ.out hb); have nB := Aside0.mk (below_step KB.out hb); clear KZ KB hb; have KZ := nKZ; have KB := nB; clear nKZ nB; refine ko hK ?_; clear hK K; refine tk 9 ?_; refine tk 10 ?_; refine tk 11 ?_; refine tk 12 ?_; refine on1 14 (fun K hK => ?_); show (if Region.wanted ⟨none, .store 28 (.tmp 10) (.tmp 56), _, _, _, none⟩ _ = true then Oper.wp _ ⟨none, .store 28 (.tmp 10) (.tmp 56), _, _, _, none⟩ _ _ _ _ else _); rw [if_pos (by rfl)]; refine pv_wp_store 28 (.tmp 10) (.tmp 56) rfl rfl rfl KZ.out HZ.out hlen value_Of.infoP ?_; intro W3 s1 s2; have nB := Aside0.mk (s2 w.heap.size w HGZ.out KB.out); clear KB s1 s2; have KB := nB; clear nB; refine ko hK ?_; clear hK K; refine tk 15 ?_; refine tk 16 ?_; refine wpAnyH_done (by kernel_rfl) ?_ _
            go_wp2; go_meet; exact ⟨rfl, KB⟩
          case rest =>
            clear KB; obtain ⟨rfl, KB⟩ := hcut; go_wp2
            go_roundg g'
            case measure => omega
            case rel => exact ⟨i + 1, by simp, by omega, KB, by omega⟩
        · have c0 : (bt x i == 32) = false := by rw [beq_eq_false_iff_ne]; exact hc
          have c1 : (bt x i != 32) = true := by rw [bne, c0]; rfl
          go_wp2
          go_roundg g'
          case measure => omega
          case rel => exact ⟨i + 1, by simp, by omega, KB, by omega⟩
def kakugyolaw13_digits.f (a0 : Int) : Option (ByteArray) := if a0 < 10 then (if 0 ≤ a0 then (if a0 ≤ (wrap64 (a0 + 1)) then (if (wrap64 (a0 + 1)) ≤ 10 then (some ((⟨#[48, 49, 50, 51, 52, 53, 54, 55, 56, 57]⟩ : ByteArray).extract (a0 : Int).toNat ((wrap64 (a0 + 1)) : Int).toNat)) else (none)) else (none)) else (none)) else (if 0 ≤ (wrap64 (Int.tdiv a0 10)) then (if (wrap64 (Int.tdiv a0 10)) ≤ (wrap64 ((wrap64 (Int.tdiv a0 10)) + 1)) then (if (wrap64 ((wrap64 (Int.tdiv a0 10)) + 1)) ≤ 10 then (if 0 ≤ (Int.tmod a0 10) then (if (Int.tmod a0 10) ≤ (wrap64 ((Int.tmod a0 10) + 1)) then (if (wrap64 ((Int.tmod a0 10) + 1)) ≤ 10 then (if ((⟨#[48, 49, 50, 51, 52, 53, 54, 55, 56, 57]⟩ : ByteArray).extract ((wrap64 (Int.tdiv a0 10)) : Int).toNat ((wrap64 ((wrap64 (Int.tdiv a0 10)) + 1)) : Int).toNat).size + ((⟨#[48, 49, 50, 51, 52, 53, 54, 55, 56, 57]⟩ : ByteArray).extract ((Int.tmod a0 10) : Int).toNat ((wrap64 ((Int.tmod a0 10) + 1)) : Int).toNat).size ≤ 9223372036854775807 then (some (((⟨#[48, 49, 50, 51, 52, 53, 54, 55, 56, 57]⟩ : ByteArray).extract ((wrap64 (Int.tdiv a0 10)) : Int).toNat ((wrap64 ((wrap64 (Int.tdiv a0 10)) + 1)) : Int).toNat) ++ ((⟨#[48, 49, 50, 51, 52, 53, 54, 55, 56, 57]⟩ : ByteArray).extract ((Int.tmod a0 10) : Int).toNat ((wrap64 ((Int.tmod a0 10) + 1)) : Int).toNat))) else (none)) else (none)) else (none)) else (none)) else (none)) else (none)) else (none))
set_option maxHeartbeats 8000000 in
set_option maxRecDepth 100000 in
theorem kakugyolaw13_digits.calls (a0 : Int) (r : ByteArray) (w : World) (h : kakugyolaw13_digits.f a0 = some r) :
    Calls Tryz.prog 15 #[.int .i64 a0] w fun e w' => e = .returned (.string r) ∧ Drawn0 w w' := by
  have H : (if a0 < 10 then (if 0 ≤ a0 then (if a0 ≤ (wrap64 (a0 + 1)) then (if (wrap64 (a0 + 1)) ≤ 10 then (some ((⟨#[48, 49, 50, 51, 52, 53, 54, 55, 56, 57]⟩ : ByteArray).extract (a0 : Int).toNat ((wrap64 (a0 + 1)) : Int).toNat)) else (none)) else (none)) else (none)) else (if 0 ≤ (wrap64 (Int.tdiv a0 10)) then (if (wrap64 (Int.tdiv a0 10)) ≤ (wrap64 ((wrap64 (Int.tdiv a0 10)) + 1)) then (if (wrap64 ((wrap64 (Int.tdiv a0 10)) + 1)) ≤ 10 then (if 0 ≤ (Int.tmod a0 10) then (if (Int.tmod a0 10) ≤ (wrap64 ((Int.tmod a0 10) + 1)) then (if (wrap64 ((Int.tmod a0 10) + 1)) ≤ 10 then (if ((⟨#[48, 49, 50, 51, 52, 53, 54, 55, 56, 57]⟩ : ByteArray).extract ((wrap64 (Int.tdiv a0 10)) : Int).toNat ((wrap64 ((wrap64 (Int.tdiv a0 10)) + 1)) : Int).toNat).size + ((⟨#[48, 49, 50, 51, 52, 53, 54, 55, 56, 57]⟩ : ByteArray).extract ((Int.tmod a0 10) : Int).toNat ((wrap64 ((Int.tmod a0 10) + 1)) : Int).toNat).size ≤ 9223372036854775807 then (some (((⟨#[48, 49, 50, 51, 52, 53, 54, 55, 56, 57]⟩ : ByteArray).extract ((wrap64 (Int.tdiv a0 10)) : Int).toNat ((wrap64 ((wrap64 (Int.tdiv a0 10)) + 1)) : Int).toNat) ++ ((⟨#[48, 49, 50, 51, 52, 53, 54, 55, 56, 57]⟩ : ByteArray).extract ((Int.tmod a0 10) : Int).toNat ((wrap64 ((Int.tmod a0 10) + 1)) : Int).toNat))) else (none)) else (none)) else (none)) else (none)) else (none)) else (none)) else (none))) = some r := h; clear h
  by_cases c2 : a0 < 10
  · rw [if_pos c2] at H
    have c2b0 : decide (a0 < 10) = true := decide_eq_true c2; clear c2
    by_cases c3 : 0 ≤ a0
    · rw [if_pos c3] at H
      have c3b0 := eq_true c3; have c3b1 : decide (0 ≤ a0) = true := decide_eq_true c3; clear c3
      by_cases c4 : a0 ≤ (wrap64 (a0 + 1))
      · rw [if_pos c4] at H
        have c4b0 := eq_true c4; have c4b1 : decide (a0 ≤ (wrap64 (a0 + 1))) = true := decide_eq_true c4
        by_cases c5 : (wrap64 (a0 + 1)) ≤ 10
        · rw [if_pos c5] at H
          have c5b0 := eq_true c5; have c5b1 : decide ((wrap64 (a0 + 1)) ≤ 10) = true := decide_eq_true c5; obtain rfl := Option.some.inj H; go_enter Tryz.func15, Tryz.ntmps15; go_wp2
          repeat (go_quiet (fail); try go_wp2)
          go_ret; exact ⟨by first | rfl | (simp; done) | (simp [*]; done), by repeat (first | exact Drawn0.refl _ | apply Drawn0.step)⟩
        · rw [if_neg c5] at H
          exact absurd H (by simp)
      · rw [if_neg c4] at H
        exact absurd H (by simp)
    · rw [if_neg c3] at H
      exact absurd H (by simp)
  · rw [if_neg c2] at H
    have c2b0 : decide (a0 < 10) = false := decide_eq_false c2; clear c2
    obtain ⟨ji6, hji6⟩ : ∃ j_ : Int, (wrap64 (Int.tdiv a0 10)) = j_ := ⟨_, rfl⟩
    replace H : (if 0 ≤ (ji6) then (if (ji6) ≤ (wrap64 ((ji6) + 1)) then (if (wrap64 ((ji6) + 1)) ≤ 10 then (if 0 ≤ (Int.tmod a0 10) then (if (Int.tmod a0 10) ≤ (wrap64 ((Int.tmod a0 10) + 1)) then (if (wrap64 ((Int.tmod a0 10) + 1)) ≤ 10 then (if ((⟨#[48, 49, 50, 51, 52, 53, 54, 55, 56, 57]⟩ : ByteArray).extract ((ji6) : Int).toNat ((wrap64 ((ji6) + 1)) : Int).toNat).size + ((⟨#[48, 49, 50, 51, 52, 53, 54, 55, 56, 57]⟩ : ByteArray).extract ((Int.tmod a0 10) : Int).toNat ((wrap64 ((Int.tmod a0 10) + 1)) : Int).toNat).size ≤ 9223372036854775807 then (some (((⟨#[48, 49, 50, 51, 52, 53, 54, 55, 56, 57]⟩ : ByteArray).extract ((ji6) : Int).toNat ((wrap64 ((ji6) + 1)) : Int).toNat) ++ ((⟨#[48, 49, 50, 51, 52, 53, 54, 55, 56, 57]⟩ : ByteArray).extract ((Int.tmod a0 10) : Int).toNat ((wrap64 ((Int.tmod a0 10) + 1)) : Int).toNat))) else (none)) else (none)) else (none)) else (none)) else (none)) else (none)) else (none)) = some r := by first | (rw [hji6] at H; exact H) | (simp only [hji6] at H ⊢; exact H)
    have hji6w : (IntKind.i64.wrap (Int.tdiv a0 10)) = ji6 := (i64_w _).trans hji6
    by_cases c7 : 0 ≤ (ji6)
    · rw [if_pos c7] at H
      have c7b0 := eq_true c7; have c7b1 : decide (0 ≤ (ji6)) = true := decide_eq_true c7; clear c7
      by_cases c8 : (ji6) ≤ (wrap64 ((ji6) + 1))
      · rw [if_pos c8] at H
        have c8b0 := eq_true c8; have c8b1 : decide ((ji6) ≤ (wrap64 ((ji6) + 1))) = true := decide_eq_true c8
        by_cases c9 : (wrap64 ((ji6) + 1)) ≤ 10
        · rw [if_pos c9] at H
          have c9b0 := eq_true c9; have c9b1 : decide ((wrap64 ((ji6) + 1)) ≤ 10) = true := decide_eq_true c9
          obtain ⟨ji10, hji10⟩ : ∃ j_ : Int, (Int.tmod a0 10) = j_ := ⟨_, rfl⟩
          replace H : (if 0 ≤ (ji10) then (if (ji10) ≤ (wrap64 ((ji10) + 1)) then (if (wrap64 ((ji10) + 1)) ≤ 10 then (if ((⟨#[48, 49, 50, 51, 52, 53, 54, 55, 56, 57]⟩ : ByteArray).extract ((ji6) : Int).toNat ((wrap64 ((ji6) + 1)) : Int).toNat).size + ((⟨#[48, 49, 50, 51, 52, 53, 54, 55, 56, 57]⟩ : ByteArray).extract ((ji10) : Int).toNat ((wrap64 ((ji10) + 1)) : Int).toNat).size ≤ 9223372036854775807 then (some (((⟨#[48, 49, 50, 51, 52, 53, 54, 55, 56, 57]⟩ : ByteArray).extract ((ji6) : Int).toNat ((wrap64 ((ji6) + 1)) : Int).toNat) ++ ((⟨#[48, 49, 50, 51, 52, 53, 54, 55, 56, 57]⟩ : ByteArray).extract ((ji10) : Int).toNat ((wrap64 ((ji10) + 1)) : Int).toNat))) else (none)) else (none)) else (none)) else (none)) = some r := by first | (rw [hji10] at H; exact H) | (simp only [hji10] at H ⊢; exact H)
          by_cases c11 : 0 ≤ (ji10)
          · rw [if_pos c11] at H
            have c11b0 := eq_true c11; have c11b1 : decide (0 ≤ (ji10)) = true := decide_eq_true c11; clear c11
            by_cases c12 : (ji10) ≤ (wrap64 ((ji10) + 1))
            · rw [if_pos c12] at H
              have c12b0 := eq_true c12; have c12b1 : decide ((ji10) ≤ (wrap64 ((ji10) + 1))) = true := decide_eq_true c12
              by_cases c13 : (wrap64 ((ji10) + 1)) ≤ 10
              · rw [if_pos c13] at H
                have c13b0 := eq_true c13; have c13b1 : decide ((wrap64 ((ji10) + 1)) ≤ 10) = true := decide_eq_true c13
                by_cases c14 : ((⟨#[48, 49, 50, 51, 52, 53, 54, 55, 56, 57]⟩ : ByteArray).extract ((ji6) : Int).toNat ((wrap64 ((ji6) + 1)) : Int).toNat).size + ((⟨#[48, 49, 50, 51, 52, 53, 54, 55, 56, 57]⟩ : ByteArray).extract ((ji10) : Int).toNat ((wrap64 ((ji10) + 1)) : Int).toNat).size ≤ 9223372036854775807
                · rw [if_pos c14] at H
                  have c14b0 := eq_true c14; have c14b1 : decide (((⟨#[48, 49, 50, 51, 52, 53, 54, 55, 56, 57]⟩ : ByteArray).extract ((ji6) : Int).toNat ((wrap64 ((ji6) + 1)) : Int).toNat).size + ((⟨#[48, 49, 50, 51, 52, 53, 54, 55, 56, 57]⟩ : ByteArray).extract ((ji10) : Int).toNat ((wrap64 ((ji10) + 1)) : Int).toNat).size ≤ 9223372036854775807) = true := decide_eq_true c14
                  try have c14b2 : (9223372036854775807 < ((⟨#[48, 49, 50, 51, 52, 53, 54, 55, 56, 57]⟩ : ByteArray).extract ((ji6) : Int).toNat ((wrap64 ((ji6) + 1)) : Int).toNat).size + ((⟨#[48, 49, 50, 51, 52, 53, 54, 55, 56, 57]⟩ : ByteArray).extract ((ji10) : Int).toNat ((wrap64 ((ji10) + 1)) : Int).toNat).size) = False := eq_false (Nat.not_lt.2 c14)
                  try (have c14b3 := c14b2; simp only [ByteArray.size_append, ByteArray.size_extract, (show (⟨#[48, 49, 50, 51, 52, 53, 54, 55, 56, 57]⟩ : ByteArray).size = 10 from rfl)] at c14b3)
                  try (have c14b4 := c14b3; rw [Nat.min_eq_left] at c14b4; rotate_left; focus (simp [*]; done))
                  obtain rfl := Option.some.inj H; go_enter Tryz.func15, Tryz.ntmps15; go_wp2
                  repeat (go_quiet (fail); try go_wp2)
                  go_ret; exact ⟨by first | rfl | (simp; done) | (simp only [← hji6, ← hji10] <;> (first | rfl | simp)) | (simp [*]; done), by repeat (first | exact Drawn0.refl _ | apply Drawn0.step)⟩
                · rw [if_neg c14] at H
                  exact absurd H (by simp)
              · rw [if_neg c13] at H
                exact absurd H (by simp)
            · rw [if_neg c12] at H
              exact absurd H (by simp)
          · rw [if_neg c11] at H
            exact absurd H (by simp)
        · rw [if_neg c9] at H
          exact absurd H (by simp)
      · rw [if_neg c8] at H
        exact absurd H (by simp)
    · rw [if_neg c7] at H
      exact absurd H (by simp)
end Go.Proofs.YtigenhbmgpfffaaGreatDoor.Pa
