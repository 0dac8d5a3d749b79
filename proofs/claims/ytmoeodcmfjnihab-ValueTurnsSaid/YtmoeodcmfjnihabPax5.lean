-- Printed by a program of this session: the kit's printer, with contracts of this session's own among its functions.
import Derived.Test.YtmoeodcmfjnihabPax0
import Derived.Test.YtmoeodcmfjnihabPax1
import Derived.Test.YtmoeodcmfjnihabPax2
import Derived.Test.YtmoeodcmfjnihabPax4
namespace Go.Proofs.Ytmoeodcmfjnihab.Pa
open Go.RowKit Go.Proofs.YtmoeodcmfjnihabW.PrintWords Go.Proofs.YtmoeodcmfjnihabW.PrintLast Go.Proofs.YtmoeodcmfjnihabW.PrintMore
attribute [local go_sem] max2_int min2_int max_two min_two max_three min_three max_four min_four   -- for this text's walks alone
set_option linter.unusedVariables false
set_option linter.unusedSimpArgs false

/-! ### kakugyolaw17_values: function 10 -/
def kakugyolaw17_values.f : Option Bool := some true
set_option maxRecDepth 100000 in
set_option maxHeartbeats 8000000 in
theorem kakugyolaw17_values.calls (r : Bool) (w : World) (h : kakugyolaw17_values.f = some r) :
    Calls Try.prog 10 #[] w fun e w' => e = .returned (.bool r) ∧ Below w.heap.size w w' := by
  obtain rfl := Option.some.inj h; clear h
  have hz := board_Start.zero
  have hll : board_Start.startL.length = 98 := by decide +kernel
  have e0 : value_Of.f board_Start.startL = some 0 := by decide +kernel
  have e1 : value_Of.f (board_Start.startL.set 88 1) = some 1045 := by decide +kernel
  have e4 : value_Square.f 40 = some 4 := by decide +kernel
  have e5 : value_Square.f 0 = some 0 := by decide +kernel
  have E0 := Aside0.mk e0
  have E1 := Aside0.mk e1
  have E4 := Aside0.mk e4
  have E5 := Aside0.mk e5
  have HZ : Aside0 ((value_Of.pv board_Start.zl).size = 98) := ⟨by rw [value_Of.pv_size, board_Start.zl_len]⟩
  clear e0 e1 e4 e5
  have KB := Aside0.mk (Below.refl w.heap.size w)
  go_enter Try.func10, Try.ntmps10
  go_upto_region 2 with (first | (go_at_call 31; refine (board_Start.start_calls _).mono ?_; rintro e w5 ⟨rfl, hb⟩; have nB := Aside0.mk (below_step KB.out hb); clear KB hb; have KB := nB; clear nB) | ((with_reducible refine gate_store (t := 33) (p := 1) (v := .tmp 2) rfl ?_); refine value_Of.store rfl 33 (.tmp 1) (.tmp 2) rfl rfl rfl (blk_new _ _) HZ.out hll value_Of.infoP ?_; intro W3 s1 s2 s3; have K1 := Aside0.mk s1; have nB := Aside0.mk (s2 w.heap.size w KB.out.size (below_alloc KB.out _)); have HG := Aside0.mk KB.out.size; clear s1 s2 s3 KB; have KB := nB; clear nB))
  generalize w5.heap.size = g1 at *
  have c88 := (blk_cell K1.out 88).trans (value_Of.pv_get _ 88 (by omega))
  have f88 := blk_frozen K1.out 88
  go_upto_region 3 with (fail)
  clear c88 f88
  have B1 := (blk_set K1.out 88 (.int .i8 1)).trans (by rw [value_Of.pv_set])
  have BB := (KB.out).setCell (p := ⟨g1, 88, none⟩) HG.out (.int .i8 1)
  generalize W3.setCell ⟨g1, 88, none⟩ (.int .i8 1) = W4 at *
  clear K1 KB
  have K1 := Aside0.mk B1
  have KB := Aside0.mk BB
  clear B1 BB
  have hl2 : (board_Start.startL.set 88 1).length = 98 := by rw [List.length_set, hll]
  generalize hm : board_Start.startL.set 88 1 = m at *
  have HM := Aside0.mk hm
  clear hm
  generalize hn : board_Start.startL = n at *
  have HN := Aside0.mk hn
  clear hn
  go_wp2_with (first | (go_at_call 31; refine (board_Start.start_calls _).mono ?_; rw [HN.out]; rintro e w5 ⟨rfl, hb⟩; have n1 := Aside0.mk (blk_below K1.out hb); have nB := Aside0.mk (below_step KB.out hb); clear K1 KB hb; have K1 := n1; have KB := nB; clear n1 nB) | (go_at_call 19; (with_reducible refine (value_Of.of_calls n _ 0 hll E0.out).mono ?_); rintro e w5 ⟨rfl, hb⟩; have n1 := Aside0.mk (blk_below K1.out hb); have nB := Aside0.mk (below_step KB.out hb); clear K1 KB hb; have K1 := n1; have KB := nB; clear n1 nB) | (go_at_call 19; (with_reducible refine (value_Of.of_calls m _ 1045 hl2 E1.out).mono ?_); rintro e w5 ⟨rfl, hb⟩; have n1 := Aside0.mk (blk_below K1.out hb); have nB := Aside0.mk (below_step KB.out hb); clear K1 KB hb; have K1 := n1; have KB := nB; clear n1 nB) | (go_at_call 15; (with_reducible refine (value_Square.calls 40 _ _ E4.out).mono ?_); rintro e w5 ⟨rfl, hd⟩; have hb := hd.below; clear hd; have n1 := Aside0.mk (blk_below K1.out hb); have nB := Aside0.mk (below_step KB.out hb); clear K1 KB hb; have K1 := n1; have KB := nB; clear n1 nB) | (go_at_call 15; (with_reducible refine (value_Square.calls 0 _ _ E5.out).mono ?_); rintro e w5 ⟨rfl, hd⟩; have hb := hd.below; clear hd; have n1 := Aside0.mk (blk_below K1.out hb); have nB := Aside0.mk (below_step KB.out hb); clear K1 KB hb; have K1 := n1; have KB := nB; clear n1 nB) | ((with_reducible refine gate_dst (N := 10) rfl ?_); (try (refine gate_guard (by rfl) ?_; dsimp only)); refine value_Of.load rfl 33 (.tmp 1) rfl rfl K1.out Try.underlying33 rfl value_Of.infoP (by omega) ?_; rw [show (m.drop 0).take 98 = m by rw [List.drop_zero, List.take_of_length_le (by omega)]]))
  go_ret
  exact ⟨rfl, KB.out⟩

/-! ### kakugyoref02_Kind: function 36 -/
def kakugyoref02_Kind.f (a0 : Int) : Option (Int) := if a0 < 1 then (some 0) else (if a0 > 31 then (some 0) else (if a0 = 13 then (some 0) else (if a0 = 16 then (some 0) else (if a0 = 29 then (some 0) else (some (Int.tmod a0 16))))))
set_option maxHeartbeats 8000000 in
set_option maxRecDepth 100000 in
theorem kakugyoref02_Kind.calls (a0 : Int) (r : Int) (w : World) (h : kakugyoref02_Kind.f a0 = some r) :
    Calls Try.prog 36 #[.int .i64 a0] w fun e w' => e = .returned (.int .i64 r) ∧ Drawn0 w w' := by
  have H : (if a0 < 1 then (some 0) else (if a0 > 31 then (some 0) else (if a0 = 13 then (some 0) else (if a0 = 16 then (some 0) else (if a0 = 29 then (some 0) else (some (Int.tmod a0 16))))))) = some r := h
  clear h
  by_cases c2 : a0 < 1
  · rw [if_pos c2] at H
    have c2b0 : decide (a0 < 1) = true := decide_eq_true c2
    clear c2
    obtain rfl := Option.some.inj H
    go_enter Try.func36, Try.ntmps36
    go_wp2
    go_ret
    exact ⟨by first | rfl | (simp; done) | (simp [*]; done), by repeat (first | exact Drawn0.refl _ | apply Drawn0.step)⟩
  · rw [if_neg c2] at H
    have c2b0 : decide (a0 < 1) = false := decide_eq_false c2
    clear c2
    by_cases c3 : a0 > 31
    · rw [if_pos c3] at H
      have c3b0 : decide (31 < a0) = true := decide_eq_true c3
      clear c3
      obtain rfl := Option.some.inj H
      go_enter Try.func36, Try.ntmps36
      go_wp2
      go_ret
      exact ⟨by first | rfl | (simp; done) | (simp [*]; done), by repeat (first | exact Drawn0.refl _ | apply Drawn0.step)⟩
    · rw [if_neg c3] at H
      have c3b0 : decide (31 < a0) = false := decide_eq_false c3
      clear c3
      by_cases c4 : a0 = 13
      · rw [if_pos c4] at H
        have c4b0 : (a0 == 13) = true := beq_iff_eq.mpr c4
        have c4b1 : (a0 != 13) = false := bne_eq_false_iff_eq.mpr c4
        clear c4
        obtain rfl := Option.some.inj H
        go_enter Try.func36, Try.ntmps36
        go_wp2
        go_ret
        exact ⟨by first | rfl | (simp; done) | (simp [*]; done), by repeat (first | exact Drawn0.refl _ | apply Drawn0.step)⟩
      · rw [if_neg c4] at H
        have c4b0 : (a0 == 13) = false := beq_eq_false_iff_ne.mpr c4
        have c4b1 : (a0 != 13) = true := bne_iff_ne.mpr c4
        by_cases c5 : a0 = 16
        · rw [if_pos c5] at H
          have c5b0 : (a0 == 16) = true := beq_iff_eq.mpr c5
          have c5b1 : (a0 != 16) = false := bne_eq_false_iff_eq.mpr c5
          clear c5
          obtain rfl := Option.some.inj H
          go_enter Try.func36, Try.ntmps36
          go_wp2
          go_ret
          exact ⟨by first | rfl | (simp; done) | (simp [*]; done), by repeat (first | exact Drawn0.refl _ | apply Drawn0.step)⟩
        · rw [if_neg c5] at H
          have c5b0 : (a0 == 16) = false := beq_eq_false_iff_ne.mpr c5
          have c5b1 : (a0 != 16) = true := bne_iff_ne.mpr c5
          by_cases c6 : a0 = 29
          · rw [if_pos c6] at H
            have c6b0 : (a0 == 29) = true := beq_iff_eq.mpr c6
            have c6b1 : (a0 != 29) = false := bne_eq_false_iff_eq.mpr c6
            clear c6
            obtain rfl := Option.some.inj H
            go_enter Try.func36, Try.ntmps36
            go_wp2
            go_ret
            exact ⟨by first | rfl | (simp; done) | (simp [*]; done), by repeat (first | exact Drawn0.refl _ | apply Drawn0.step)⟩
          · rw [if_neg c6] at H
            have c6b0 : (a0 == 29) = false := beq_eq_false_iff_ne.mpr c6
            have c6b1 : (a0 != 29) = true := bne_iff_ne.mpr c6
            obtain rfl := Option.some.inj H
            go_enter Try.func36, Try.ntmps36
            go_wp2
            go_ret
            exact ⟨by first | rfl | (simp; done) | (simp [*]; done), by repeat (first | exact Drawn0.refl _ | apply Drawn0.step)⟩

/-! ### kakugyoref09_Clean: function 16 -/
def kakugyoref09_Clean.go : Nat → Nat → List Int → Option (List Int)
  | _, 0, l => some l
  | q, d + 1, l => (kakugyoref02_Kind.f (wrap64 (l.getD q 0))).bind fun k => kakugyoref09_Clean.go (q + 1) d (if k = 0 then l.set q 0 else l)
def kakugyoref09_Clean.f (cs : List Int) : Option (List Int) := kakugyoref09_Clean.go 0 81 cs
set_option maxRecDepth 100000 in
set_option maxHeartbeats 8000000 in
theorem kakugyoref09_Clean.clean_calls (cs : List Int) (R : List Int) (w : World) (hl : cs.length = 98) (h : kakugyoref09_Clean.f cs = some R) :
    Calls Try.prog 16 #[.agg (value_Of.pv cs)] w fun e w' => e = .returned (.agg (value_Of.pv R)) ∧ R.length = 98 ∧ Below w.heap.size w w' := by
  have hz := board_Start.zero
  have HH := Aside0.mk h
  clear h
  have B1 : ((w.alloc (Obj.cells (value_Of.pv cs) 33)).alloc (Obj.cells (value_Of.pv board_Start.zl) 33)).heap[w.heap.size]? = some (.cells (value_Of.pv cs) 33 (0, 0)) := blk_alloc (blk_new w _) _
  have B2 : ((w.alloc (Obj.cells (value_Of.pv cs) 33)).alloc (Obj.cells (value_Of.pv board_Start.zl) 33)).heap[w.heap.size + 1]? = some (.cells (value_Of.pv board_Start.zl) 33 (0, 0)) := by
    have e := blk_new (w.alloc (Obj.cells (value_Of.pv cs) 33)) (Obj.cells (value_Of.pv board_Start.zl) 33)
    have e2 : (w.alloc (Obj.cells (value_Of.pv cs) 33)).heap.size = w.heap.size + 1 := by simp [go_sem]
    rw [e2] at e
    exact e
  have BB : Below w.heap.size w ((w.alloc (Obj.cells (value_Of.pv cs) 33)).alloc (Obj.cells (value_Of.pv board_Start.zl) 33)) := below_alloc (below_alloc (Below.refl _ _) _) _
  go_enter Try.func16, Try.ntmps16
  go_upto_region 1 with (fail)
  generalize ((w.alloc (Obj.cells (value_Of.pv cs) 33)).alloc (Obj.cells (value_Of.pv board_Start.zl) 33)) = W at *
  have K1 := Aside0.mk B1
  have K2 := Aside0.mk B2
  have KB := Aside0.mk BB
  clear B1 B2 BB
  go_wp2
  go_loopg [3] 82 (fun gf s3 wx => ∃ (n : Nat) (l : List Int), s3 = .int .i64 n ∧ n ≤ 81 ∧ l.length = 98 ∧ Aside0 (kakugyoref09_Clean.go n (81 - n) l = some R) ∧ Aside0 (wx.heap[w.heap.size]? = some (.cells (value_Of.pv (l)) 33 (0, 0))) ∧ Aside0 (wx.heap[w.heap.size + 1]? = some (.cells (value_Of.pv board_Start.zl) 33 (0, 0))) ∧ Aside0 (Below w.heap.size w wx) ∧ 82 ≤ gf + n)
  case atStart => exact ⟨0, cs, rfl, by omega, hl, HH, K1, K2, KB, by omega⟩
  case round =>
    clear K1 K2 KB HH
    obtain ⟨n, l, rfl, hn, hll, HR, K1, K2, KB, hgf⟩ := hrel
    by_cases hend : n = 81
    · subst hend
      have e := HR.out
      have er : l = R := Option.some.inj e
      subst er
      clear e HR
      go_wp2_with (first | ((with_reducible refine gate_dst (N := 18) rfl ?_); refine value_Of.load rfl 33 (.tmp 1) rfl rfl K1.out Try.underlying33 rfl value_Of.infoP (by omega) ?_; rw [show (l.drop 0).take 98 = l by rw [List.drop_zero, List.take_of_length_le (by omega)]]) | ((with_reducible refine gate_store (t := 33) (p := 2) (v := .tmp 18) rfl ?_); refine value_Of.store rfl 33 (.tmp 2) (.tmp 18) rfl rfl rfl K2.out (by rw [value_Of.pv_size, board_Start.zl_len]) hll value_Of.infoP ?_; intro W3 s1 s2 s3; have S1 := Aside0.mk s1; have S2 := Aside0.mk (s2 _ _ (Nat.le_succ _) KB.out); clear s1 s2 s3))
      refine bodyPost_ret (results_cell_row (p := 2) (ty := 33) rfl _ _ (w.heap.size + 1) 33 (value_Of.pv l) (0, 0) _ rfl S1.out Try.underlying33 rfl (by rw [value_Of.infoP, value_Of.pv_size, hll])) rfl ?_
      exact ⟨rfl, hll, S2.out⟩
    · obtain ⟨d, hd⟩ : ∃ d, 81 - n = d + 1 := ⟨80 - n, by omega⟩
      have e := HR.out
      rw [hd] at e
      unfold kakugyoref09_Clean.go at e
      obtain ⟨k, hk, e2⟩ := Option.bind_eq_some_iff.mp e
      have b0 : decide ((n : Int) < 81) = true := decide_eq_true (by omega)
      have b1 : (0 ≤ (n : Int) ∧ (n : Int) < 81) = True := eq_true (by omega)
      have b3 : ((n : Int) < 81) = True := eq_true (by omega)
      have cN : wr.cell? ⟨w.heap.size, n, none⟩ = some (.int .i8 (l.getD n 0)) := (blk_cell K1.out n).trans (value_Of.pv_get l n (by omega))
      obtain ⟨v, hv⟩ : ∃ v, v = l.getD n 0 := ⟨_, rfl⟩
      rw [← hv] at cN hk
      have HK := Aside0.mk hk
      have HV := Aside0.mk hv
      have fN := blk_frozen K1.out n
      have ew : IntKind.i64.wrap ((n : Int) + 1) = (n : Int) + 1 := IntWalk.i64_in _ (by omega)
      have hd2 : d = 81 - (n + 1) := by omega
      rw [hd2] at e2
      obtain ⟨g', rfl⟩ : ∃ g', gk = g' + 1 := ⟨gk - 1, by omega⟩
      clear e hk hv HR hd hd2
      by_cases hk0 : k = 0
      · rw [if_pos hk0] at e2
        have HE := Aside0.mk e2
        have c0 : (k == 0) = true := by simpa using hk0
        clear e2
        go_upto_region 3 with (first | (go_at_call 36; refine (kakugyoref02_Kind.calls _ _ _ HK.out).mono ?_; rintro e w' ⟨rfl, ⟨n1, rfl⟩⟩))
        have B1 := (blk_set (blk_drewN K1.out n1) n (.int .i8 0)).trans (by rw [value_Of.pv_set])
        have B2 := blk_far (blk_drewN K2.out n1) (p := ⟨w.heap.size, n, none⟩) (by show w.heap.size + 1 ≠ w.heap.size; omega) (.int .i8 0)
        have BB := (pw_below_drewN KB.out n1).setCell (p := ⟨w.heap.size, n, none⟩) (Nat.le_refl _) (.int .i8 0)
        generalize (wr.drewN n1).setCell ⟨w.heap.size, n, none⟩ (.int .i8 0) = W2 at *
        clear K1 K2 KB cN fN
        have K1 := Aside0.mk B1
        have K2 := Aside0.mk B2
        have KB := Aside0.mk BB
        clear B1 B2 BB
        go_wp2
        go_roundg g'
        case measure => omega
        case rel => exact ⟨n + 1, l.set n 0, by simp, by omega, by rw [List.length_set, hll], HE, K1, K2, KB, by omega⟩
      · rw [if_neg hk0] at e2
        have HE := Aside0.mk e2
        have c0 : (k == 0) = false := by simpa using hk0
        clear e2
        go_upto_region 3 with (first | (go_at_call 36; refine (kakugyoref02_Kind.calls _ _ _ HK.out).mono ?_; rintro e w' ⟨rfl, ⟨n1, rfl⟩⟩))
        have B1 := Aside0.mk (blk_drewN K1.out n1)
        have B2 := Aside0.mk (blk_drewN K2.out n1)
        have BB := Aside0.mk (pw_below_drewN KB.out n1)
        clear K1 K2 KB cN fN
        go_wp2
        go_roundg g'
        case measure => omega
        case rel => exact ⟨n + 1, l, by simp, by omega, hll, HE, B1, B2, BB, by omega⟩

/-! ### kakugyoref05_On: function 41 -/
set_option maxRecDepth 100000 in
set_option maxHeartbeats 8000000 in
theorem kakugyoref05_On.on_calls (cs : List Int) (p : Int) (f : Nat) (w : World) (hl : cs.length = 98) (hf : f < 9) :
    Calls Try.prog 41 #[.agg (value_Of.pv cs), .int .i64 p, .int .i64 (f : Int)] w fun e w' => ∃ r : Int, e = .returned (.int .i64 r) ∧ Below w.heap.size w w' := by
  have B1 : (w.alloc (Obj.cells (value_Of.pv cs) 33)).heap[w.heap.size]? = some (.cells (value_Of.pv cs) 33 (0, 0)) := blk_new w _
  have BB : Below w.heap.size w (w.alloc (Obj.cells (value_Of.pv cs) 33)) := below_alloc (Below.refl _ _) _
  obtain ⟨m9, hm9⟩ : ∃ m9 : Nat, m9 = 9 * f := ⟨_, rfl⟩
  have e1 : IntKind.i64.wrap (9 * (f : Int)) = (m9 : Int) := by rw [IntWalk.i64_in _ (by omega)]; omega
  go_enter Try.func41, Try.ntmps41
  go_upto_region 1 with (fail)
  generalize w.alloc (Obj.cells (value_Of.pv cs) 33) = W at *
  have K1 := Aside0.mk B1
  have KB := Aside0.mk BB
  clear B1 BB
  go_wp2
  go_loopg [7, 8] 10 (fun gf s7 s8 wx => ∃ (c : Int) (n : Nat), s7 = .int .i64 c ∧ s8 = .int .i64 n ∧ n ≤ 9 ∧ Aside0 (wx.heap[w.heap.size]? = some (.cells (value_Of.pv cs) 33 (0, 0))) ∧ Aside0 (Below w.heap.size w wx) ∧ 10 ≤ gf + n)
  case atStart => exact ⟨0, 0, rfl, rfl, by omega, K1, KB, by omega⟩
  case round =>
    clear K1 KB
    obtain ⟨c, n, rfl, rfl, hn, K1, KB, hgf⟩ := hrel
    by_cases hend : n = 9
    · subst hend
      go_wp2
      go_ret
      exact ⟨_, rfl, KB.out⟩
    · obtain ⟨q, hq⟩ : ∃ q : Nat, q = m9 + n := ⟨_, rfl⟩
      have e2 : IntKind.i64.wrap ((m9 : Int) + (n : Int)) = (q : Int) := by rw [IntWalk.i64_in _ (by omega)]; omega
      have b0 : decide ((n : Int) < 9) = true := decide_eq_true (by omega)
      have b1 : (0 ≤ (q : Int) ∧ (q : Int) < 81) = True := eq_true (by omega)
      have b3 : ((q : Int) < 81) = True := eq_true (by omega)
      have cN : wr.cell? ⟨w.heap.size, q, none⟩ = some (.int .i8 (cs.getD q 0)) := (blk_cell K1.out q).trans (value_Of.pv_get cs q (by omega))
      obtain ⟨v, hv⟩ : ∃ v, v = cs.getD q 0 := ⟨_, rfl⟩
      rw [← hv] at cN
      have HV := Aside0.mk hv
      have HQ := Aside0.mk hq
      have HM := Aside0.mk hm9
      have ew : IntKind.i64.wrap ((n : Int) + 1) = (n : Int) + 1 := IntWalk.i64_in _ (by omega)
      obtain ⟨g', rfl⟩ : ∃ g', gk = g' + 1 := ⟨gk - 1, by omega⟩
      clear hv hq hm9
      cases hb : (wrap64 v == p)
      · go_wp2
        go_roundg g'
        case measure => omega
        case rel => exact ⟨_, n + 1, rfl, by simp, by omega, K1, KB, by omega⟩
      · go_wp2
        go_roundg g'
        case measure => omega
        case rel => exact ⟨_, n + 1, rfl, by simp, by omega, K1, KB, by omega⟩
set_option maxRecDepth 100000 in
set_option maxHeartbeats 8000000 in
theorem kakugyoref05_On.all_calls (cs : List Int) (p : Int) (w : World) (hl : cs.length = 98) :
    Calls Try.prog 37 #[.agg (value_Of.pv cs), .int .i64 p] w fun e w' => ∃ r : Int, e = .returned (.int .i64 r) ∧ Below w.heap.size w w' := by
  have B1 : (w.alloc (Obj.cells (value_Of.pv cs) 33)).heap[w.heap.size]? = some (.cells (value_Of.pv cs) 33 (0, 0)) := blk_new w _
  have BB : Below w.heap.size w (w.alloc (Obj.cells (value_Of.pv cs) 33)) := below_alloc (Below.refl _ _) _
  go_enter Try.func37, Try.ntmps37
  go_upto_region 1 with (fail)
  generalize w.alloc (Obj.cells (value_Of.pv cs) 33) = W at *
  have K1 := Aside0.mk B1
  have KB := Aside0.mk BB
  clear B1 BB
  go_wp2
  go_loopg [5, 6] 10 (fun gf s5 s6 wx => ∃ (c : Int) (n : Nat), s5 = .int .i64 c ∧ s6 = .int .i64 n ∧ n ≤ 9 ∧ Aside0 (wx.heap[w.heap.size]? = some (.cells (value_Of.pv cs) 33 (0, 0))) ∧ Aside0 (Below w.heap.size w wx) ∧ 10 ≤ gf + n)
  case atStart => exact ⟨0, 0, rfl, rfl, by omega, K1, KB, by omega⟩
  case round =>
    clear K1 KB
    obtain ⟨c, n, rfl, rfl, hn, K1, KB, hgf⟩ := hrel
    by_cases hend : n = 9
    · subst hend
      go_wp2
      go_ret
      exact ⟨_, rfl, KB.out⟩
    · have b0 : decide ((n : Int) < 9) = true := decide_eq_true (by omega)
      have ew : IntKind.i64.wrap ((n : Int) + 1) = (n : Int) + 1 := IntWalk.i64_in _ (by omega)
      have hn9 : n < 9 := by omega
      have HN := Aside0.mk hn9
      obtain ⟨g', rfl⟩ : ∃ g', gk = g' + 1 := ⟨gk - 1, by omega⟩
      go_wp2_with (first | ((with_reducible refine gate_dst (N := 12) rfl ?_); refine value_Of.load rfl 33 (.tmp 2) rfl rfl K1.out Try.underlying33 rfl value_Of.infoP (by omega) ?_; rw [show (cs.drop 0).take 98 = cs by rw [List.drop_zero, List.take_of_length_le (by omega)]]) | (go_at_call 41; refine (kakugyoref05_On.on_calls cs p n _ hl HN.out).mono ?_; rintro e w7 ⟨r, rfl, hb⟩; have n1 := Aside0.mk (blk_below K1.out hb); have nB := Aside0.mk (below_step KB.out hb); clear K1 KB hb; have K1 := n1; have KB := nB; clear n1 nB))
      go_roundg g'
      case measure => omega
      case rel => exact ⟨_, n + 1, rfl, by simp, by omega, K1, KB, by omega⟩

-- NOT PRINTED: function 37 (kakugyoref05_all)

/-! ### kakugyoref02_Raw: function 53 -/
def kakugyoref02_Raw.j0 : Nat → Int → Bool → Option (Int)
  | 0, _, _ => none
  | k + 1, x0, x12 => if x12 = true then (some 0) else (if x0 > 8 then (some (wrap64 (x0 - 8))) else (some x0))
def kakugyoref02_Raw.f (k : Nat) (a0 : Int) : Option (Int) := if a0 < 1 then (kakugyoref02_Raw.j0 k a0 true) else (if a0 > 15 then (kakugyoref02_Raw.j0 k a0 true) else (kakugyoref02_Raw.j0 k a0 (a0 == 13)))
theorem kakugyoref02_Raw.mono_l : ∀ k, (∀ y0 y1, LeO (kakugyoref02_Raw.j0 k y0 y1) (kakugyoref02_Raw.j0 (k + 1) y0 y1))
  | 0 => fun _ _ r h => by simp [kakugyoref02_Raw.j0] at h
  | k + 1 => by
    have ih0 := kakugyoref02_Raw.mono_l k
    · intro y0 y1
      unfold kakugyoref02_Raw.j0
      repeat' first
      | (with_reducible exact ih0 _ _)
      | (with_reducible exact LeO.refl _)
      | (with_reducible exact LeO.none _)
      | (with_reducible refine LeO.ite ?_ ?_)
      | (with_reducible refine LeO.bind ?_ (fun _ => ?_))
      | exact ih0 _ _
      | exact LeO.none _
      | refine LeO.ite ?_ ?_
      | refine LeO.bind ?_ (fun _ => ?_)
theorem kakugyoref02_Raw.mono : ∀ a0 k, LeO (kakugyoref02_Raw.f k a0) (kakugyoref02_Raw.f (k + 1) a0) := by
  intro a0 k
  have ih0 := kakugyoref02_Raw.mono_l k
  unfold kakugyoref02_Raw.f
  repeat' first
      | (with_reducible exact ih0 _ _)
      | (with_reducible exact LeO.refl _)
      | (with_reducible exact LeO.none _)
      | (with_reducible refine LeO.ite ?_ ?_)
      | (with_reducible refine LeO.bind ?_ (fun _ => ?_))
      | exact ih0 _ _
      | exact LeO.none _
      | refine LeO.ite ?_ ?_
      | refine LeO.bind ?_ (fun _ => ?_)
set_option maxHeartbeats 8000000 in
set_option maxRecDepth 100000 in
theorem kakugyoref02_Raw.calls (k : Nat) (a0 : Int) (r : Int) (w : World) (h : kakugyoref02_Raw.f k a0 = some r) :
    Calls Try.prog 53 #[.int .i64 a0] w fun e w' => e = .returned (.int .i64 r) ∧ Drawn0 w w' := by
  have H : (if a0 < 1 then (kakugyoref02_Raw.j0 k a0 true) else (if a0 > 15 then (kakugyoref02_Raw.j0 k a0 true) else (kakugyoref02_Raw.j0 k a0 (a0 == 13)))) = some r := h
  clear h
  have HC2 := Aside0.mk H
  clear H
  go_enter Try.func53, Try.ntmps53
  go_upto_region 1 with (fail)
  go_cut [12] (fun v12 wc => ∃ (kq : Nat) (x12_1 : Bool), v12 = .bool x12_1 ∧ Aside0 (kakugyoref02_Raw.j0 kq a0 x12_1 = some r) ∧ Aside0 (kq ≤ k) ∧ Drawn0 w wc)
  case first =>
    have H := HC2.out
    clear HC2
    by_cases c3 : a0 < 1
    · rw [if_pos c3] at H
      have c3b0 : decide (a0 < 1) = true := decide_eq_true c3
      clear c3
      (first | rw [c3b0] | (simp only [i64_w, i32_w]; rw [c3b0]) | skip)
      have H' := Aside0.mk H
      clear H
      go_wp2
      go_meet
      case rel => exact ⟨_, (true), (by first | rfl | (simp; done) | (simp [*]; done)), H', ⟨by first | omega | exact Nat.le_refl _⟩, by repeat (first | exact Drawn0.refl _ | apply Drawn0.step)⟩
    · rw [if_neg c3] at H
      have c3b0 : decide (a0 < 1) = false := decide_eq_false c3
      clear c3
      (first | rw [c3b0] | (simp only [i64_w, i32_w]; rw [c3b0]) | skip)
      by_cases c4 : a0 > 15
      · rw [if_pos c4] at H
        have c4b0 : decide (15 < a0) = true := decide_eq_true c4
        clear c4
        have H' := Aside0.mk H
        clear H
        go_wp2
        go_meet
        case rel => exact ⟨_, (true), (by first | rfl | (simp; done) | (simp [*]; done)), H', ⟨by first | omega | exact Nat.le_refl _⟩, by repeat (first | exact Drawn0.refl _ | apply Drawn0.step)⟩
      · rw [if_neg c4] at H
        have c4b0 : decide (15 < a0) = false := decide_eq_false c4
        clear c4
        have H' := Aside0.mk H
        clear H
        go_wp2
        go_meet
        case rel => exact ⟨_, ((a0 == 13)), (by first | rfl | (simp; done) | (simp [*]; done)), H', ⟨by first | omega | exact Nat.le_refl _⟩, by repeat (first | exact Drawn0.refl _ | apply Drawn0.step)⟩
  case rest =>
    clear HC2
    try clear p2
    try clear c3
    try clear c3b0
    try clear c4
    try clear c4b0
    obtain ⟨kq, x12_1, rfl, HA, HJ1, ⟨mc1, rfl⟩⟩ := hcut
    cases kq with
    | zero => exact absurd HA.out (by simp [kakugyoref02_Raw.j0])
    | succ kj1 =>
      have H := HA.out
      clear HA
      simp only [kakugyoref02_Raw.j0] at H
      by_cases c5 : x12_1 = true
      · subst c5
        have H1 : (some 0) = some r := by rw [if_pos rfl] at H; exact H
        clear H
        have H := H1
        clear H1
        obtain rfl := Option.some.inj H
        go_wp2
        go_ret
        exact ⟨by first | rfl | (simp; done) | (simp [*]; done), by repeat (first | exact Drawn0.refl _ | apply Drawn0.step)⟩
      · replace c5 := Bool.eq_false_iff.mpr c5
        subst c5
        have H1 : (if a0 > 8 then (some (wrap64 (a0 - 8))) else (some a0)) = some r := by rw [if_neg (show ¬ (false = true) by decide)] at H; exact H
        clear H
        have H := H1
        clear H1
        by_cases c6 : a0 > 8
        · rw [if_pos c6] at H
          have c6b0 : decide (8 < a0) = true := decide_eq_true c6
          clear c6
          obtain rfl := Option.some.inj H
          go_wp2
          go_ret
          exact ⟨by first | rfl | (simp; done) | (simp [*]; done), by repeat (first | exact Drawn0.refl _ | apply Drawn0.step)⟩
        · rw [if_neg c6] at H
          have c6b0 : decide (8 < a0) = false := decide_eq_false c6
          clear c6
          obtain rfl := Option.some.inj H
          go_wp2
          go_ret
          exact ⟨by first | rfl | (simp; done) | (simp [*]; done), by repeat (first | exact Drawn0.refl _ | apply Drawn0.step)⟩

/-! ### kakugyoref05_Count: function 38 -/
set_option maxRecDepth 100000 in
set_option maxHeartbeats 8000000 in
theorem kakugyoref05_Count.count_calls (cs : List Int) (kd : Nat) (w : World) (hl : cs.length = 98) (hkd : kd < 8) (hK : ∀ v : Int, ∃ k, kakugyoref02_Kind.f (wrap64 v) = some k ∧ ∃ r, kakugyoref02_Raw.f 9 k = some r) :
    Calls Try.prog 38 #[.agg (value_Of.pv cs), .int .i64 (kd : Int)] w fun e w' => ∃ r : Int, e = .returned (.int .i64 r) ∧ Below w.heap.size w w' := by
  have B1 : (w.alloc (Obj.cells (value_Of.pv cs) 33)).heap[w.heap.size]? = some (.cells (value_Of.pv cs) 33 (0, 0)) := blk_new w _
  have BB : Below w.heap.size w (w.alloc (Obj.cells (value_Of.pv cs) 33)) := below_alloc (Below.refl _ _) _
  have HKK := Aside0.mk hK
  clear hK
  go_enter Try.func38, Try.ntmps38
  go_upto_region 1 with (fail)
  generalize w.alloc (Obj.cells (value_Of.pv cs) 33) = W at *
  have K1 := Aside0.mk B1
  have KB := Aside0.mk BB
  clear B1 BB
  go_wp2
  go_loopg [5, 6] 82 (fun gf s5 s6 wx => ∃ (c : Int) (n : Nat), s5 = .int .i64 c ∧ s6 = .int .i64 n ∧ n ≤ 81 ∧ Aside0 (wx.heap[w.heap.size]? = some (.cells (value_Of.pv cs) 33 (0, 0))) ∧ Aside0 (Below w.heap.size w wx) ∧ 82 ≤ gf + n)
  case atStart => exact ⟨0, 0, rfl, rfl, by omega, K1, KB, by omega⟩
  case round =>
    clear K1 KB
    obtain ⟨c, n, rfl, rfl, hn, K1, KB, hgf⟩ := hrel
    by_cases hend : n = 81
    · subst hend
      have k0 : (0 ≤ (kd : Int) ∧ (kd : Int) < 8) = True := eq_true (by omega)
      have k1 : ((kd : Int) < 8) = True := eq_true (by omega)
      have cA : wr.cell? ⟨w.heap.size, 81 + kd, none⟩ = some (.int .i8 (cs.getD (81 + kd) 0)) := (blk_cell K1.out (81 + kd)).trans (value_Of.pv_get cs (81 + kd) (by omega))
      have cB : wr.cell? ⟨w.heap.size, 89 + kd, none⟩ = some (.int .i8 (cs.getD (89 + kd) 0)) := (blk_cell K1.out (89 + kd)).trans (value_Of.pv_get cs (89 + kd) (by omega))
      generalize cs.getD (81 + kd) 0 = va at cA
      generalize cs.getD (89 + kd) 0 = vb at cB
      go_upto_region 7 with (fail)
      go_quiet (fail)
      go_wp2
      go_ret
      exact ⟨_, rfl, pw_below_drewN KB.out _⟩
    · have b0 : decide ((n : Int) < 81) = true := decide_eq_true (by omega)
      have b1 : (0 ≤ (n : Int) ∧ (n : Int) < 81) = True := eq_true (by omega)
      have b3 : ((n : Int) < 81) = True := eq_true (by omega)
      have cN : wr.cell? ⟨w.heap.size, n, none⟩ = some (.int .i8 (cs.getD n 0)) := (blk_cell K1.out n).trans (value_Of.pv_get cs n (by omega))
      generalize cs.getD n 0 = v at cN
      obtain ⟨k, hk, r, hr⟩ := HKK.out v
      have HK := Aside0.mk hk
      have HR := Aside0.mk hr
      have ew : IntKind.i64.wrap ((n : Int) + 1) = (n : Int) + 1 := IntWalk.i64_in _ (by omega)
      obtain ⟨g', rfl⟩ : ∃ g', gk = g' + 1 := ⟨gk - 1, by omega⟩
      clear hk hr
      cases hb : (r == (kd : Int))
      · go_wp2_with (first | (go_at_call 36; refine (kakugyoref02_Kind.calls _ _ _ HK.out).mono ?_; rintro e w' ⟨rfl, ⟨n1, rfl⟩⟩) | (go_at_call 53; refine (kakugyoref02_Raw.calls _ _ _ _ HR.out).mono ?_; rintro e w' ⟨rfl, ⟨n2, rfl⟩⟩))
        go_roundg g'
        case measure => omega
        case rel => exact ⟨_, n + 1, rfl, by simp, by omega, ⟨K1.out⟩, ⟨by repeat (first | exact KB.out | apply pw_below_drewN)⟩, by omega⟩
      · go_wp2_with (first | (go_at_call 36; refine (kakugyoref02_Kind.calls _ _ _ HK.out).mono ?_; rintro e w' ⟨rfl, ⟨n1, rfl⟩⟩) | (go_at_call 53; refine (kakugyoref02_Raw.calls _ _ _ _ HR.out).mono ?_; rintro e w' ⟨rfl, ⟨n2, rfl⟩⟩))
        go_roundg g'
        case measure => omega
        case rel => exact ⟨_, n + 1, rfl, by simp, by omega, ⟨K1.out⟩, ⟨by repeat (first | exact KB.out | apply pw_below_drewN)⟩, by omega⟩

/-! ### kakugyoref02_Total: function 39 -/
def kakugyoref02_Total.f (a0 : Int) : Option (Int) := (some (([0, 18, 4, 4, 4, 4, 2, 2, 2] : List Int) : List Int)).bind fun y104 => (if a0 < 1 then (some 0) else (if a0 > 8 then (some 0) else (if 0 ≤ a0 then (if a0 < (y104.length : Int) then (some (rd y104 a0)) else (none)) else (none))))
set_option maxHeartbeats 8000000 in
set_option maxRecDepth 100000 in
theorem kakugyoref02_Total.calls (a0 : Int) (r : Int) (w : World) (h : kakugyoref02_Total.f a0 = some r) :
    Calls Try.prog 39 #[.int .i64 a0] w fun e w' => e = .returned (.int .i64 r) ∧ Below w.heap.size w w' := by
  have HB := Aside0.mk (Below.refl w.heap.size w)
  have H : ((some (([0, 18, 4, 4, 4, 4, 2, 2, 2] : List Int) : List Int)).bind fun y104 => (if a0 < 1 then (some 0) else (if a0 > 8 then (some 0) else (if 0 ≤ a0 then (if a0 < (y104.length : Int) then (some (rd y104 a0)) else (none)) else (none))))) = some r := h
  clear h
  obtain ⟨y104, hy104⟩ : ∃ y_ : List Int, y_ = (([0, 18, 4, 4, 4, 4, 2, 2, 2] : List Int)) := ⟨_, rfl⟩
  replace H : (if a0 < 1 then (some 0) else (if a0 > 8 then (some 0) else (if 0 ≤ a0 then (if a0 < (y104.length : Int) then (some (rd y104 a0)) else (none)) else (none)))) = some r := by first | (rw [hy104]; with_reducible exact H) | (have H2_ := (Option.bind_some _ _).symm.trans H; rw [hy104]; with_reducible exact H2_) | (have H2_ := (Option.bind_some _ _).symm.trans H; with_reducible exact H2_) | with_reducible exact H | (rw [hy104]; exact H) | exact H
  have Ny104 := Aside0.mk hy104
  clear hy104
  by_cases c2 : a0 < 1
  · rw [if_pos c2] at H
    have c2b0 : decide (a0 < 1) = true := decide_eq_true c2
    clear c2
    obtain rfl := Option.some.inj H
    go_enter Try.func39, Try.ntmps39
    go_wp2_with (first | ((with_reducible refine gate_dst (N := 4) rfl ?_); refine Kd.R_lit (Kd.int .i64) _ 3 ?hg (N := 4) ?hd (xs := ([0, 18, 4, 4, 4, 4, 2, 2, 2] : List Int)) (inner := [.int .i64 0, .int .i64 18, .int .i64 4, .int .i64 4, .int .i64 4, .int .i64 4, .int .i64 2, .int .i64 2, .int .i64 2]) (ok := fun _ => True) (okp := fun _ => True) ?hr ?hp (fun _ hk => hk) trivial (Below.refl _ _) (Nat.le_refl _) (by simp) ?_; (case hd => rfl); (case hg => rfl); (case hr => first | (go_simp; done) | (go_simp; rfl)); (case hp => exact (Reps.one (show Kd.M (Kd.int .i64) _ _ _ 0 [.int .i64 0] from rfl) (Reps.one (show Kd.M (Kd.int .i64) _ _ _ 18 [.int .i64 18] from rfl) (Reps.one (show Kd.M (Kd.int .i64) _ _ _ 4 [.int .i64 4] from rfl) (Reps.one (show Kd.M (Kd.int .i64) _ _ _ 4 [.int .i64 4] from rfl) (Reps.one (show Kd.M (Kd.int .i64) _ _ _ 4 [.int .i64 4] from rfl) (Reps.one (show Kd.M (Kd.int .i64) _ _ _ 4 [.int .i64 4] from rfl) (Reps.one (show Kd.M (Kd.int .i64) _ _ _ 2 [.int .i64 2] from rfl) (Reps.one (show Kd.M (Kd.int .i64) _ _ _ 2 [.int .i64 2] from rfl) (Reps.one (show Kd.M (Kd.int .i64) _ _ _ 2 [.int .i64 2] from rfl) (Reps.none _ _))))))))))); intro v105 w3 ho4 hb hg_ hnew_; clear hg_ hnew_; (first | rw [← Ny104.out] at ho4 | (simp only [Int.reduceToNat] at ho4; rw [← Ny104.out] at ho4)); have n0_ := Aside0.mk (Kd.R_lower ho4 (below_size (by repeat (first | (with_reducible first | exact HB.out | apply below_alloc | apply pw_below_drewN | apply below_drew1) | exact HB.out)))); have n1_ := Aside0.mk (below_step (by repeat (first | (with_reducible first | exact HB.out | apply below_alloc | apply pw_below_drewN | apply below_drew1) | exact HB.out)) hb); clear HB; have HO106 := n0_; have HB := n1_; clear n0_ n1_; clear hb ho4))
    go_ret
    exact ⟨by first | rfl | (simp [errW_none, errW_some] <;> rfl) | (simp [*, errW_none, errW_some] <;> rfl) | (simp [*, errW_none, errW_some]; generalize ByteArray.toList _ = q_; cases q_ <;> rfl), by repeat (first | (with_reducible first | exact HB.out | apply below_alloc | apply pw_below_drewN | apply below_drew1) | exact HB.out)⟩
  · rw [if_neg c2] at H
    have c2b0 : decide (a0 < 1) = false := decide_eq_false c2
    clear c2
    by_cases c5 : a0 > 8
    · rw [if_pos c5] at H
      have c5b0 : decide (8 < a0) = true := decide_eq_true c5
      clear c5
      obtain rfl := Option.some.inj H
      go_enter Try.func39, Try.ntmps39
      go_wp2_with (first | ((with_reducible refine gate_dst (N := 4) rfl ?_); refine Kd.R_lit (Kd.int .i64) _ 3 ?hg (N := 4) ?hd (xs := ([0, 18, 4, 4, 4, 4, 2, 2, 2] : List Int)) (inner := [.int .i64 0, .int .i64 18, .int .i64 4, .int .i64 4, .int .i64 4, .int .i64 4, .int .i64 2, .int .i64 2, .int .i64 2]) (ok := fun _ => True) (okp := fun _ => True) ?hr ?hp (fun _ hk => hk) trivial (Below.refl _ _) (Nat.le_refl _) (by simp) ?_; (case hd => rfl); (case hg => rfl); (case hr => first | (go_simp; done) | (go_simp; rfl)); (case hp => exact (Reps.one (show Kd.M (Kd.int .i64) _ _ _ 0 [.int .i64 0] from rfl) (Reps.one (show Kd.M (Kd.int .i64) _ _ _ 18 [.int .i64 18] from rfl) (Reps.one (show Kd.M (Kd.int .i64) _ _ _ 4 [.int .i64 4] from rfl) (Reps.one (show Kd.M (Kd.int .i64) _ _ _ 4 [.int .i64 4] from rfl) (Reps.one (show Kd.M (Kd.int .i64) _ _ _ 4 [.int .i64 4] from rfl) (Reps.one (show Kd.M (Kd.int .i64) _ _ _ 4 [.int .i64 4] from rfl) (Reps.one (show Kd.M (Kd.int .i64) _ _ _ 2 [.int .i64 2] from rfl) (Reps.one (show Kd.M (Kd.int .i64) _ _ _ 2 [.int .i64 2] from rfl) (Reps.one (show Kd.M (Kd.int .i64) _ _ _ 2 [.int .i64 2] from rfl) (Reps.none _ _))))))))))); intro v105 w6 ho7 hb hg_ hnew_; clear hg_ hnew_; (first | rw [← Ny104.out] at ho7 | (simp only [Int.reduceToNat] at ho7; rw [← Ny104.out] at ho7)); have n0_ := Aside0.mk (Kd.R_lower ho7 (below_size (by repeat (first | (with_reducible first | exact HB.out | apply below_alloc | apply pw_below_drewN | apply below_drew1) | exact HB.out)))); have n1_ := Aside0.mk (below_step (by repeat (first | (with_reducible first | exact HB.out | apply below_alloc | apply pw_below_drewN | apply below_drew1) | exact HB.out)) hb); clear HB; have HO106 := n0_; have HB := n1_; clear n0_ n1_; clear hb ho7))
      go_ret
      exact ⟨by first | rfl | (simp [errW_none, errW_some] <;> rfl) | (simp [*, errW_none, errW_some] <;> rfl) | (simp [*, errW_none, errW_some]; generalize ByteArray.toList _ = q_; cases q_ <;> rfl), by repeat (first | (with_reducible first | exact HB.out | apply below_alloc | apply pw_below_drewN | apply below_drew1) | exact HB.out)⟩
    · rw [if_neg c5] at H
      have c5b0 : decide (8 < a0) = false := decide_eq_false c5
      clear c5
      by_cases c8 : 0 ≤ a0
      · rw [if_pos c8] at H
        have c8b0 : decide (0 ≤ a0) = true := decide_eq_true c8
        clear c8
        by_cases c9 : a0 < (y104.length : Int)
        · rw [if_pos c9] at H
          have c9b0 : decide (a0 < (y104.length : Int)) = true := decide_eq_true c9
          clear c9
          obtain rfl := Option.some.inj H
          go_enter Try.func39, Try.ntmps39
          go_wp2_with (first | ((with_reducible refine gate_dst (N := 4) rfl ?_); refine Kd.R_lit (Kd.int .i64) _ 3 ?hg (N := 4) ?hd (xs := ([0, 18, 4, 4, 4, 4, 2, 2, 2] : List Int)) (inner := [.int .i64 0, .int .i64 18, .int .i64 4, .int .i64 4, .int .i64 4, .int .i64 4, .int .i64 2, .int .i64 2, .int .i64 2]) (ok := fun _ => True) (okp := fun _ => True) ?hr ?hp (fun _ hk => hk) trivial (Below.refl _ _) (Nat.le_refl _) (by simp) ?_; (case hd => rfl); (case hg => rfl); (case hr => first | (go_simp; done) | (go_simp; rfl)); (case hp => exact (Reps.one (show Kd.M (Kd.int .i64) _ _ _ 0 [.int .i64 0] from rfl) (Reps.one (show Kd.M (Kd.int .i64) _ _ _ 18 [.int .i64 18] from rfl) (Reps.one (show Kd.M (Kd.int .i64) _ _ _ 4 [.int .i64 4] from rfl) (Reps.one (show Kd.M (Kd.int .i64) _ _ _ 4 [.int .i64 4] from rfl) (Reps.one (show Kd.M (Kd.int .i64) _ _ _ 4 [.int .i64 4] from rfl) (Reps.one (show Kd.M (Kd.int .i64) _ _ _ 4 [.int .i64 4] from rfl) (Reps.one (show Kd.M (Kd.int .i64) _ _ _ 2 [.int .i64 2] from rfl) (Reps.one (show Kd.M (Kd.int .i64) _ _ _ 2 [.int .i64 2] from rfl) (Reps.one (show Kd.M (Kd.int .i64) _ _ _ 2 [.int .i64 2] from rfl) (Reps.none _ _))))))))))); intro v105 w10 ho11 hb hg_ hnew_; clear hg_ hnew_; (first | rw [← Ny104.out] at ho11 | (simp only [Int.reduceToNat] at ho11; rw [← Ny104.out] at ho11)); have n0_ := Aside0.mk (Kd.R_lower ho11 (below_size (by repeat (first | (with_reducible first | exact HB.out | apply below_alloc | apply pw_below_drewN | apply below_drew1) | exact HB.out)))); have n1_ := Aside0.mk (below_step (by repeat (first | (with_reducible first | exact HB.out | apply below_alloc | apply pw_below_drewN | apply below_drew1) | exact HB.out)) hb); clear HB; have HO106 := n0_; have HB := n1_; clear n0_ n1_; clear hb ho11; obtain ⟨Ao12, co12, eo12⟩ := Kd.R_slice HO106.out; subst eo12; have p107 : 0 ≤ (a0 : Int) := of_decide_eq_true (by first | (with_reducible assumption) | assumption); have q107 : a0 < (y104.length : Int) := of_decide_eq_true (by first | (with_reducible assumption) | assumption); obtain ⟨ad107, e107, hx107_0⟩ := Kd.at_int (Kd.R_reads' HO106.out).2.2 a0 p107 q107; cases e107; replace p107 := eq_true p107; replace q107 := eq_true q107))
          go_ret
          exact ⟨by first | rfl | (simp [errW_none, errW_some] <;> rfl) | (simp [*, errW_none, errW_some] <;> rfl) | (simp [*, errW_none, errW_some]; generalize ByteArray.toList _ = q_; cases q_ <;> rfl), by repeat (first | (with_reducible first | exact HB.out | apply below_alloc | apply pw_below_drewN | apply below_drew1) | exact HB.out)⟩
        · rw [if_neg c9] at H
          exact absurd H (by simp)
      · rw [if_neg c8] at H
        exact absurd H (by simp)

/-! ### kakugyoref02_Side: function 18 -/
def kakugyoref02_Side.f (a0 : Int) : Option (Int) := (kakugyoref02_Kind.f a0).bind fun t108 => (if t108 = 0 then (some (-1)) else (some (wrap64 (Int.tdiv a0 16))))
set_option maxHeartbeats 8000000 in
set_option maxRecDepth 100000 in
theorem kakugyoref02_Side.calls (a0 : Int) (r : Int) (w : World) (h : kakugyoref02_Side.f a0 = some r) :
    Calls Try.prog 18 #[.int .i64 a0] w fun e w' => e = .returned (.int .i64 r) ∧ Drawn0 w w' := by
  have H : ((kakugyoref02_Kind.f a0).bind fun t108 => (if t108 = 0 then (some (-1)) else (some (wrap64 (Int.tdiv a0 16))))) = some r := h
  clear h
  replace H := Option.bind_eq_some_iff.mp H
  obtain ⟨t108, A20, H⟩ := H
  replace H : (if t108 = 0 then (some (-1)) else (some (wrap64 (Int.tdiv a0 16)))) = some r := H
  have A2 := Aside0.mk A20
  clear A20
  by_cases c3 : t108 = 0
  · rw [if_pos c3] at H
    have c3b0 : (t108 == 0) = true := beq_iff_eq.mpr c3
    have c3b1 : (t108 != 0) = false := bne_eq_false_iff_eq.mpr c3
    clear c3
    obtain rfl := Option.some.inj H
    go_enter Try.func18, Try.ntmps18
    go_wp2_with (first | ((with_reducible refine gate_callee (f := 36) rfl ?_); refine goesL_ (some 4) rfl rfl Try.func36 (by kernel_rfl) rfl #[.int .i64 a0] rfl (by (try simp only [List.map_toArray, List.map_cons, List.map_nil]); first | done | rfl | (simp only [List.length_drop, List.length_take]; rfl)) ?_; (with_reducible refine (kakugyoref02_Kind.calls a0 t108 _ A2.out).mono ?_); rintro e w' ⟨rfl, ⟨nd, rfl⟩⟩; refine ⟨_, rfl, ?_⟩))
    go_ret
    exact ⟨by first | rfl | (simp; done) | (simp [*]; done), by repeat (first | exact Drawn0.refl _ | apply Drawn0.step)⟩
  · rw [if_neg c3] at H
    have c3b0 : (t108 == 0) = false := beq_eq_false_iff_ne.mpr c3
    have c3b1 : (t108 != 0) = true := bne_iff_ne.mpr c3
    obtain rfl := Option.some.inj H
    go_enter Try.func18, Try.ntmps18
    go_wp2_with (first | ((with_reducible refine gate_callee (f := 36) rfl ?_); refine goesL_ (some 4) rfl rfl Try.func36 (by kernel_rfl) rfl #[.int .i64 a0] rfl (by (try simp only [List.map_toArray, List.map_cons, List.map_nil]); first | done | rfl | (simp only [List.length_drop, List.length_take]; rfl)) ?_; (with_reducible refine (kakugyoref02_Kind.calls a0 t108 _ A2.out).mono ?_); rintro e w' ⟨rfl, ⟨nd, rfl⟩⟩; refine ⟨_, rfl, ?_⟩))
    go_ret
    exact ⟨by first | rfl | (simp; done) | (simp [*]; done), by repeat (first | exact Drawn0.refl _ | apply Drawn0.step)⟩

/-! ### kakugyoref03_Far: function 54 -/
def kakugyoref03_Far.j0 : Nat → Int → Int → Bool → Option (Int)
  | 0, _, _, _ => none
  | k + 1, x0, x1, x18 => if x18 = true then (some (-1)) else (if x0 = 0 then (some (Int.tmod x1 9)) else (some (wrap64 (8 - (Int.tmod x1 9)))))
def kakugyoref03_Far.f (k : Nat) (a0 : Int) (a1 : Int) : Option (Int) := if a1 < 0 then (kakugyoref03_Far.j0 k a0 a1 true) else (if a1 > 80 then (kakugyoref03_Far.j0 k a0 a1 true) else (if a0 < 0 then (kakugyoref03_Far.j0 k a0 a1 true) else (kakugyoref03_Far.j0 k a0 a1 (decide (a0 > 1)))))
theorem kakugyoref03_Far.mono_l : ∀ k, (∀ y0 y1 y2, LeO (kakugyoref03_Far.j0 k y0 y1 y2) (kakugyoref03_Far.j0 (k + 1) y0 y1 y2))
  | 0 => fun _ _ _ r h => by simp [kakugyoref03_Far.j0] at h
  | k + 1 => by
    have ih0 := kakugyoref03_Far.mono_l k
    · intro y0 y1 y2
      unfold kakugyoref03_Far.j0
      repeat' first
      | (with_reducible exact ih0 _ _ _)
      | (with_reducible exact LeO.refl _)
      | (with_reducible exact LeO.none _)
      | (with_reducible refine LeO.ite ?_ ?_)
      | (with_reducible refine LeO.bind ?_ (fun _ => ?_))
      | exact ih0 _ _ _
      | exact LeO.none _
      | refine LeO.ite ?_ ?_
      | refine LeO.bind ?_ (fun _ => ?_)
theorem kakugyoref03_Far.mono : ∀ a0 a1 k, LeO (kakugyoref03_Far.f k a0 a1) (kakugyoref03_Far.f (k + 1) a0 a1) := by
  intro a0 a1 k
  have ih0 := kakugyoref03_Far.mono_l k
  unfold kakugyoref03_Far.f
  repeat' first
      | (with_reducible exact ih0 _ _ _)
      | (with_reducible exact LeO.refl _)
      | (with_reducible exact LeO.none _)
      | (with_reducible refine LeO.ite ?_ ?_)
      | (with_reducible refine LeO.bind ?_ (fun _ => ?_))
      | exact ih0 _ _ _
      | exact LeO.none _
      | refine LeO.ite ?_ ?_
      | refine LeO.bind ?_ (fun _ => ?_)
set_option maxHeartbeats 8000000 in
set_option maxRecDepth 100000 in
theorem kakugyoref03_Far.calls (k : Nat) (a0 : Int) (a1 : Int) (r : Int) (w : World) (h : kakugyoref03_Far.f k a0 a1 = some r) :
    Calls Try.prog 54 #[.int .i64 a0, .int .i64 a1] w fun e w' => e = .returned (.int .i64 r) ∧ Drawn0 w w' := by
  have H : (if a1 < 0 then (kakugyoref03_Far.j0 k a0 a1 true) else (if a1 > 80 then (kakugyoref03_Far.j0 k a0 a1 true) else (if a0 < 0 then (kakugyoref03_Far.j0 k a0 a1 true) else (kakugyoref03_Far.j0 k a0 a1 (decide (a0 > 1)))))) = some r := h
  clear h
  have HC3 := Aside0.mk H
  clear H
  go_enter Try.func54, Try.ntmps54
  go_upto_region 1 with (fail)
  go_cut [18] (fun v18 wc => ∃ (kq : Nat) (x18_2 : Bool), v18 = .bool x18_2 ∧ Aside0 (kakugyoref03_Far.j0 kq a0 a1 x18_2 = some r) ∧ Aside0 (kq ≤ k) ∧ Drawn0 w wc)
  case first =>
    have H := HC3.out
    clear HC3
    by_cases c4 : a1 < 0
    · rw [if_pos c4] at H
      have c4b0 : decide (a1 < 0) = true := decide_eq_true c4
      clear c4
      (first | rw [c4b0] | (simp only [i64_w, i32_w]; rw [c4b0]) | skip)
      have H' := Aside0.mk H
      clear H
      go_wp2
      go_meet
      case rel => exact ⟨_, (true), (by first | rfl | (simp; done) | (simp [*]; done)), H', ⟨by first | omega | exact Nat.le_refl _⟩, by repeat (first | exact Drawn0.refl _ | apply Drawn0.step)⟩
    · rw [if_neg c4] at H
      have c4b0 : decide (a1 < 0) = false := decide_eq_false c4
      clear c4
      (first | rw [c4b0] | (simp only [i64_w, i32_w]; rw [c4b0]) | skip)
      by_cases c5 : a1 > 80
      · rw [if_pos c5] at H
        have c5b0 : decide (80 < a1) = true := decide_eq_true c5
        clear c5
        have H' := Aside0.mk H
        clear H
        go_wp2
        go_meet
        case rel => exact ⟨_, (true), (by first | rfl | (simp; done) | (simp [*]; done)), H', ⟨by first | omega | exact Nat.le_refl _⟩, by repeat (first | exact Drawn0.refl _ | apply Drawn0.step)⟩
      · rw [if_neg c5] at H
        have c5b0 : decide (80 < a1) = false := decide_eq_false c5
        clear c5
        by_cases c6 : a0 < 0
        · rw [if_pos c6] at H
          have c6b0 : decide (a0 < 0) = true := decide_eq_true c6
          clear c6
          have H' := Aside0.mk H
          clear H
          go_wp2
          go_meet
          case rel => exact ⟨_, (true), (by first | rfl | (simp; done) | (simp [*]; done)), H', ⟨by first | omega | exact Nat.le_refl _⟩, by repeat (first | exact Drawn0.refl _ | apply Drawn0.step)⟩
        · rw [if_neg c6] at H
          have c6b0 : decide (a0 < 0) = false := decide_eq_false c6
          clear c6
          have H' := Aside0.mk H
          clear H
          go_wp2
          go_meet
          case rel => exact ⟨_, (decide (a0 > 1)), (by first | rfl | (simp; done) | (simp [*]; done)), H', ⟨by first | omega | exact Nat.le_refl _⟩, by repeat (first | exact Drawn0.refl _ | apply Drawn0.step)⟩
  case rest =>
    clear HC3
    try clear p2
    try clear c4
    try clear c4b0
    try clear c5
    try clear c5b0
    try clear c6
    try clear c6b0
    obtain ⟨kq, x18_2, rfl, HA, HJ2, ⟨mc2, rfl⟩⟩ := hcut
    cases kq with
    | zero => exact absurd HA.out (by simp [kakugyoref03_Far.j0])
    | succ kj2 =>
      have H := HA.out
      clear HA
      simp only [kakugyoref03_Far.j0] at H
      by_cases c7 : x18_2 = true
      · subst c7
        have H1 : (some (-1)) = some r := by rw [if_pos rfl] at H; exact H
        clear H
        have H := H1
        clear H1
        obtain rfl := Option.some.inj H
        go_wp2
        go_ret
        exact ⟨by first | rfl | (simp; done) | (simp [*]; done), by repeat (first | exact Drawn0.refl _ | apply Drawn0.step)⟩
      · replace c7 := Bool.eq_false_iff.mpr c7
        subst c7
        have H1 : (if a0 = 0 then (some (Int.tmod a1 9)) else (some (wrap64 (8 - (Int.tmod a1 9))))) = some r := by rw [if_neg (show ¬ (false = true) by decide)] at H; exact H
        clear H
        have H := H1
        clear H1
        by_cases c8 : a0 = 0
        · rw [if_pos c8] at H
          have c8b0 : (a0 == 0) = true := beq_iff_eq.mpr c8
          have c8b1 : (a0 != 0) = false := bne_eq_false_iff_eq.mpr c8
          clear c8
          obtain rfl := Option.some.inj H
          go_wp2
          go_ret
          exact ⟨by first | rfl | (simp; done) | (simp [*]; done), by repeat (first | exact Drawn0.refl _ | apply Drawn0.step)⟩
        · rw [if_neg c8] at H
          have c8b0 : (a0 == 0) = false := beq_eq_false_iff_ne.mpr c8
          have c8b1 : (a0 != 0) = true := bne_iff_ne.mpr c8
          obtain rfl := Option.some.inj H
          go_wp2
          go_ret
          exact ⟨by first | rfl | (simp; done) | (simp [*]; done), by repeat (first | exact Drawn0.refl _ | apply Drawn0.step)⟩

/-! ### kakugyoref03_Dead: function 40 -/
def kakugyoref03_Dead.f (k : Nat) (a0 : Int) (a1 : Int) : Option (Bool) := (kakugyoref02_Side.f a0).bind fun t109 => ((kakugyoref03_Far.f k t109 a1).bind fun t110 => ((kakugyoref02_Kind.f a0).bind fun t111 => (if t111 = 1 then (if t110 = 0 then (some true) else (if t111 = 3 then (some (t110 == 1)) else (some false))) else (if t111 = 2 then (if t110 = 0 then (some true) else (if t111 = 3 then (some (t110 == 1)) else (some false))) else (if t111 = 3 then (if t110 = 0 then (some true) else (some (t110 == 1))) else (some false))))))
theorem kakugyoref03_Dead.mono : ∀ a0 a1 k, LeO (kakugyoref03_Dead.f k a0 a1) (kakugyoref03_Dead.f (k + 1) a0 a1) := by
  intro a0 a1 k
  unfold kakugyoref03_Dead.f
  repeat' first
      | (with_reducible exact kakugyoref03_Far.mono _ _ _)
      | (with_reducible exact LeO.refl _)
      | (with_reducible exact LeO.none _)
      | (with_reducible refine LeO.ite ?_ ?_)
      | (with_reducible refine LeO.bind ?_ (fun _ => ?_))
      | exact kakugyoref03_Far.mono _ _ _
      | exact LeO.none _
      | refine LeO.ite ?_ ?_
      | refine LeO.bind ?_ (fun _ => ?_)
set_option maxHeartbeats 8000000 in
set_option maxRecDepth 100000 in
theorem kakugyoref03_Dead.calls (k : Nat) (a0 : Int) (a1 : Int) (r : Bool) (w : World) (h : kakugyoref03_Dead.f k a0 a1 = some r) :
    Calls Try.prog 40 #[.int .i64 a0, .int .i64 a1] w fun e w' => e = .returned (.bool r) ∧ Drawn0 w w' := by
  have H : ((kakugyoref02_Side.f a0).bind fun t109 => ((kakugyoref03_Far.f k t109 a1).bind fun t110 => ((kakugyoref02_Kind.f a0).bind fun t111 => (if t111 = 1 then (if t110 = 0 then (some true) else (if t111 = 3 then (some (t110 == 1)) else (some false))) else (if t111 = 2 then (if t110 = 0 then (some true) else (if t111 = 3 then (some (t110 == 1)) else (some false))) else (if t111 = 3 then (if t110 = 0 then (some true) else (some (t110 == 1))) else (some false))))))) = some r := h
  clear h
  replace H := Option.bind_eq_some_iff.mp H
  obtain ⟨t109, A30, H⟩ := H
  replace H : ((kakugyoref03_Far.f k t109 a1).bind fun t110 => ((kakugyoref02_Kind.f a0).bind fun t111 => (if t111 = 1 then (if t110 = 0 then (some true) else (if t111 = 3 then (some (t110 == 1)) else (some false))) else (if t111 = 2 then (if t110 = 0 then (some true) else (if t111 = 3 then (some (t110 == 1)) else (some false))) else (if t111 = 3 then (if t110 = 0 then (some true) else (some (t110 == 1))) else (some false)))))) = some r := H
  have A3 := Aside0.mk A30
  clear A30
  replace H := Option.bind_eq_some_iff.mp H
  obtain ⟨t110, A40, H⟩ := H
  replace H : ((kakugyoref02_Kind.f a0).bind fun t111 => (if t111 = 1 then (if t110 = 0 then (some true) else (if t111 = 3 then (some (t110 == 1)) else (some false))) else (if t111 = 2 then (if t110 = 0 then (some true) else (if t111 = 3 then (some (t110 == 1)) else (some false))) else (if t111 = 3 then (if t110 = 0 then (some true) else (some (t110 == 1))) else (some false))))) = some r := H
  have A4 := Aside0.mk A40
  clear A40
  replace H := Option.bind_eq_some_iff.mp H
  obtain ⟨t111, A50, H⟩ := H
  replace H : (if t111 = 1 then (if t110 = 0 then (some true) else (if t111 = 3 then (some (t110 == 1)) else (some false))) else (if t111 = 2 then (if t110 = 0 then (some true) else (if t111 = 3 then (some (t110 == 1)) else (some false))) else (if t111 = 3 then (if t110 = 0 then (some true) else (some (t110 == 1))) else (some false)))) = some r := H
  have A5 := Aside0.mk A50
  clear A50
  by_cases c6 : t111 = 1
  · rw [if_pos c6] at H
    have c6b0 : (t111 == 1) = true := beq_iff_eq.mpr c6
    have c6b1 : (t111 != 1) = false := bne_eq_false_iff_eq.mpr c6
    clear c6
    by_cases c7 : t110 = 0
    · rw [if_pos c7] at H
      have c7b0 : (t110 == 0) = true := beq_iff_eq.mpr c7
      have c7b1 : (t110 != 0) = false := bne_eq_false_iff_eq.mpr c7
      clear c7
      obtain rfl := Option.some.inj H
      go_enter Try.func40, Try.ntmps40
      go_wp2_with (first | ((with_reducible refine gate_callee (f := 18) rfl ?_); refine goesL_ (some 8) rfl rfl Try.func18 (by kernel_rfl) rfl #[.int .i64 a0] rfl (by (try simp only [List.map_toArray, List.map_cons, List.map_nil]); first | done | rfl | (simp only [List.length_drop, List.length_take]; rfl)) ?_; (with_reducible refine (kakugyoref02_Side.calls a0 t109 _ A3.out).mono ?_); rintro e w' ⟨rfl, ⟨nd, rfl⟩⟩; refine ⟨_, rfl, ?_⟩) | ((with_reducible refine gate_callee (f := 54) rfl ?_); refine goesL_ (some 10) rfl rfl Try.func54 (by kernel_rfl) rfl #[.int .i64 t109, .int .i64 a1] rfl (by (try simp only [List.map_toArray, List.map_cons, List.map_nil]); first | done | rfl | (simp only [List.length_drop, List.length_take]; rfl)) ?_; (with_reducible refine (kakugyoref03_Far.calls k t109 a1 t110 _ A4.out).mono ?_); rintro e w' ⟨rfl, ⟨nd, rfl⟩⟩; refine ⟨_, rfl, ?_⟩) | ((with_reducible refine gate_callee (f := 36) rfl ?_); refine goesL_ (some 12) rfl rfl Try.func36 (by kernel_rfl) rfl #[.int .i64 a0] rfl (by (try simp only [List.map_toArray, List.map_cons, List.map_nil]); first | done | rfl | (simp only [List.length_drop, List.length_take]; rfl)) ?_; (with_reducible refine (kakugyoref02_Kind.calls a0 t111 _ A5.out).mono ?_); rintro e w' ⟨rfl, ⟨nd, rfl⟩⟩; refine ⟨_, rfl, ?_⟩))
      go_ret
      exact ⟨by first | rfl | (simp; done) | (simp [*]; done), by repeat (first | exact Drawn0.refl _ | apply Drawn0.step)⟩
    · rw [if_neg c7] at H
      have c7b0 : (t110 == 0) = false := beq_eq_false_iff_ne.mpr c7
      have c7b1 : (t110 != 0) = true := bne_iff_ne.mpr c7
      by_cases c8 : t111 = 3
      · rw [if_pos c8] at H
        have c8b0 : (t111 == 3) = true := beq_iff_eq.mpr c8
        have c8b1 : (t111 != 3) = false := bne_eq_false_iff_eq.mpr c8
        clear c8
        obtain rfl := Option.some.inj H
        go_enter Try.func40, Try.ntmps40
        go_wp2_with (first | ((with_reducible refine gate_callee (f := 18) rfl ?_); refine goesL_ (some 8) rfl rfl Try.func18 (by kernel_rfl) rfl #[.int .i64 a0] rfl (by (try simp only [List.map_toArray, List.map_cons, List.map_nil]); first | done | rfl | (simp only [List.length_drop, List.length_take]; rfl)) ?_; (with_reducible refine (kakugyoref02_Side.calls a0 t109 _ A3.out).mono ?_); rintro e w' ⟨rfl, ⟨nd, rfl⟩⟩; refine ⟨_, rfl, ?_⟩) | ((with_reducible refine gate_callee (f := 54) rfl ?_); refine goesL_ (some 10) rfl rfl Try.func54 (by kernel_rfl) rfl #[.int .i64 t109, .int .i64 a1] rfl (by (try simp only [List.map_toArray, List.map_cons, List.map_nil]); first | done | rfl | (simp only [List.length_drop, List.length_take]; rfl)) ?_; (with_reducible refine (kakugyoref03_Far.calls k t109 a1 t110 _ A4.out).mono ?_); rintro e w' ⟨rfl, ⟨nd, rfl⟩⟩; refine ⟨_, rfl, ?_⟩) | ((with_reducible refine gate_callee (f := 36) rfl ?_); refine goesL_ (some 12) rfl rfl Try.func36 (by kernel_rfl) rfl #[.int .i64 a0] rfl (by (try simp only [List.map_toArray, List.map_cons, List.map_nil]); first | done | rfl | (simp only [List.length_drop, List.length_take]; rfl)) ?_; (with_reducible refine (kakugyoref02_Kind.calls a0 t111 _ A5.out).mono ?_); rintro e w' ⟨rfl, ⟨nd, rfl⟩⟩; refine ⟨_, rfl, ?_⟩))
        go_ret
        exact ⟨by first | rfl | (simp; done) | (simp [*]; done), by repeat (first | exact Drawn0.refl _ | apply Drawn0.step)⟩
      · rw [if_neg c8] at H
        have c8b0 : (t111 == 3) = false := beq_eq_false_iff_ne.mpr c8
        have c8b1 : (t111 != 3) = true := bne_iff_ne.mpr c8
        obtain rfl := Option.some.inj H
        go_enter Try.func40, Try.ntmps40
        go_wp2_with (first | ((with_reducible refine gate_callee (f := 18) rfl ?_); refine goesL_ (some 8) rfl rfl Try.func18 (by kernel_rfl) rfl #[.int .i64 a0] rfl (by (try simp only [List.map_toArray, List.map_cons, List.map_nil]); first | done | rfl | (simp only [List.length_drop, List.length_take]; rfl)) ?_; (with_reducible refine (kakugyoref02_Side.calls a0 t109 _ A3.out).mono ?_); rintro e w' ⟨rfl, ⟨nd, rfl⟩⟩; refine ⟨_, rfl, ?_⟩) | ((with_reducible refine gate_callee (f := 54) rfl ?_); refine goesL_ (some 10) rfl rfl Try.func54 (by kernel_rfl) rfl #[.int .i64 t109, .int .i64 a1] rfl (by (try simp only [List.map_toArray, List.map_cons, List.map_nil]); first | done | rfl | (simp only [List.length_drop, List.length_take]; rfl)) ?_; (with_reducible refine (kakugyoref03_Far.calls k t109 a1 t110 _ A4.out).mono ?_); rintro e w' ⟨rfl, ⟨nd, rfl⟩⟩; refine ⟨_, rfl, ?_⟩) | ((with_reducible refine gate_callee (f := 36) rfl ?_); refine goesL_ (some 12) rfl rfl Try.func36 (by kernel_rfl) rfl #[.int .i64 a0] rfl (by (try simp only [List.map_toArray, List.map_cons, List.map_nil]); first | done | rfl | (simp only [List.length_drop, List.length_take]; rfl)) ?_; (with_reducible refine (kakugyoref02_Kind.calls a0 t111 _ A5.out).mono ?_); rintro e w' ⟨rfl, ⟨nd, rfl⟩⟩; refine ⟨_, rfl, ?_⟩))
        go_ret
        exact ⟨by first | rfl | (simp; done) | (simp [*]; done), by repeat (first | exact Drawn0.refl _ | apply Drawn0.step)⟩
  · rw [if_neg c6] at H
    have c6b0 : (t111 == 1) = false := beq_eq_false_iff_ne.mpr c6
    have c6b1 : (t111 != 1) = true := bne_iff_ne.mpr c6
    by_cases c9 : t111 = 2
    · rw [if_pos c9] at H
      have c9b0 : (t111 == 2) = true := beq_iff_eq.mpr c9
      have c9b1 : (t111 != 2) = false := bne_eq_false_iff_eq.mpr c9
      clear c9
      by_cases c10 : t110 = 0
      · rw [if_pos c10] at H
        have c10b0 : (t110 == 0) = true := beq_iff_eq.mpr c10
        have c10b1 : (t110 != 0) = false := bne_eq_false_iff_eq.mpr c10
        clear c10
        obtain rfl := Option.some.inj H
        go_enter Try.func40, Try.ntmps40
        go_wp2_with (first | ((with_reducible refine gate_callee (f := 18) rfl ?_); refine goesL_ (some 8) rfl rfl Try.func18 (by kernel_rfl) rfl #[.int .i64 a0] rfl (by (try simp only [List.map_toArray, List.map_cons, List.map_nil]); first | done | rfl | (simp only [List.length_drop, List.length_take]; rfl)) ?_; (with_reducible refine (kakugyoref02_Side.calls a0 t109 _ A3.out).mono ?_); rintro e w' ⟨rfl, ⟨nd, rfl⟩⟩; refine ⟨_, rfl, ?_⟩) | ((with_reducible refine gate_callee (f := 54) rfl ?_); refine goesL_ (some 10) rfl rfl Try.func54 (by kernel_rfl) rfl #[.int .i64 t109, .int .i64 a1] rfl (by (try simp only [List.map_toArray, List.map_cons, List.map_nil]); first | done | rfl | (simp only [List.length_drop, List.length_take]; rfl)) ?_; (with_reducible refine (kakugyoref03_Far.calls k t109 a1 t110 _ A4.out).mono ?_); rintro e w' ⟨rfl, ⟨nd, rfl⟩⟩; refine ⟨_, rfl, ?_⟩) | ((with_reducible refine gate_callee (f := 36) rfl ?_); refine goesL_ (some 12) rfl rfl Try.func36 (by kernel_rfl) rfl #[.int .i64 a0] rfl (by (try simp only [List.map_toArray, List.map_cons, List.map_nil]); first | done | rfl | (simp only [List.length_drop, List.length_take]; rfl)) ?_; (with_reducible refine (kakugyoref02_Kind.calls a0 t111 _ A5.out).mono ?_); rintro e w' ⟨rfl, ⟨nd, rfl⟩⟩; refine ⟨_, rfl, ?_⟩))
        go_ret
        exact ⟨by first | rfl | (simp; done) | (simp [*]; done), by repeat (first | exact Drawn0.refl _ | apply Drawn0.step)⟩
      · rw [if_neg c10] at H
        have c10b0 : (t110 == 0) = false := beq_eq_false_iff_ne.mpr c10
        have c10b1 : (t110 != 0) = true := bne_iff_ne.mpr c10
        by_cases c11 : t111 = 3
        · rw [if_pos c11] at H
          have c11b0 : (t111 == 3) = true := beq_iff_eq.mpr c11
          have c11b1 : (t111 != 3) = false := bne_eq_false_iff_eq.mpr c11
          clear c11
          obtain rfl := Option.some.inj H
          go_enter Try.func40, Try.ntmps40
          go_wp2_with (first | ((with_reducible refine gate_callee (f := 18) rfl ?_); refine goesL_ (some 8) rfl rfl Try.func18 (by kernel_rfl) rfl #[.int .i64 a0] rfl (by (try simp only [List.map_toArray, List.map_cons, List.map_nil]); first | done | rfl | (simp only [List.length_drop, List.length_take]; rfl)) ?_; (with_reducible refine (kakugyoref02_Side.calls a0 t109 _ A3.out).mono ?_); rintro e w' ⟨rfl, ⟨nd, rfl⟩⟩; refine ⟨_, rfl, ?_⟩) | ((with_reducible refine gate_callee (f := 54) rfl ?_); refine goesL_ (some 10) rfl rfl Try.func54 (by kernel_rfl) rfl #[.int .i64 t109, .int .i64 a1] rfl (by (try simp only [List.map_toArray, List.map_cons, List.map_nil]); first | done | rfl | (simp only [List.length_drop, List.length_take]; rfl)) ?_; (with_reducible refine (kakugyoref03_Far.calls k t109 a1 t110 _ A4.out).mono ?_); rintro e w' ⟨rfl, ⟨nd, rfl⟩⟩; refine ⟨_, rfl, ?_⟩) | ((with_reducible refine gate_callee (f := 36) rfl ?_); refine goesL_ (some 12) rfl rfl Try.func36 (by kernel_rfl) rfl #[.int .i64 a0] rfl (by (try simp only [List.map_toArray, List.map_cons, List.map_nil]); first | done | rfl | (simp only [List.length_drop, List.length_take]; rfl)) ?_; (with_reducible refine (kakugyoref02_Kind.calls a0 t111 _ A5.out).mono ?_); rintro e w' ⟨rfl, ⟨nd, rfl⟩⟩; refine ⟨_, rfl, ?_⟩))
          go_ret
          exact ⟨by first | rfl | (simp; done) | (simp [*]; done), by repeat (first | exact Drawn0.refl _ | apply Drawn0.step)⟩
        · rw [if_neg c11] at H
          have c11b0 : (t111 == 3) = false := beq_eq_false_iff_ne.mpr c11
          have c11b1 : (t111 != 3) = true := bne_iff_ne.mpr c11
          obtain rfl := Option.some.inj H
          go_enter Try.func40, Try.ntmps40
          go_wp2_with (first | ((with_reducible refine gate_callee (f := 18) rfl ?_); refine goesL_ (some 8) rfl rfl Try.func18 (by kernel_rfl) rfl #[.int .i64 a0] rfl (by (try simp only [List.map_toArray, List.map_cons, List.map_nil]); first | done | rfl | (simp only [List.length_drop, List.length_take]; rfl)) ?_; (with_reducible refine (kakugyoref02_Side.calls a0 t109 _ A3.out).mono ?_); rintro e w' ⟨rfl, ⟨nd, rfl⟩⟩; refine ⟨_, rfl, ?_⟩) | ((with_reducible refine gate_callee (f := 54) rfl ?_); refine goesL_ (some 10) rfl rfl Try.func54 (by kernel_rfl) rfl #[.int .i64 t109, .int .i64 a1] rfl (by (try simp only [List.map_toArray, List.map_cons, List.map_nil]); first | done | rfl | (simp only [List.length_drop, List.length_take]; rfl)) ?_; (with_reducible refine (kakugyoref03_Far.calls k t109 a1 t110 _ A4.out).mono ?_); rintro e w' ⟨rfl, ⟨nd, rfl⟩⟩; refine ⟨_, rfl, ?_⟩) | ((with_reducible refine gate_callee (f := 36) rfl ?_); refine goesL_ (some 12) rfl rfl Try.func36 (by kernel_rfl) rfl #[.int .i64 a0] rfl (by (try simp only [List.map_toArray, List.map_cons, List.map_nil]); first | done | rfl | (simp only [List.length_drop, List.length_take]; rfl)) ?_; (with_reducible refine (kakugyoref02_Kind.calls a0 t111 _ A5.out).mono ?_); rintro e w' ⟨rfl, ⟨nd, rfl⟩⟩; refine ⟨_, rfl, ?_⟩))
          go_ret
          exact ⟨by first | rfl | (simp; done) | (simp [*]; done), by repeat (first | exact Drawn0.refl _ | apply Drawn0.step)⟩
    · rw [if_neg c9] at H
      have c9b0 : (t111 == 2) = false := beq_eq_false_iff_ne.mpr c9
      have c9b1 : (t111 != 2) = true := bne_iff_ne.mpr c9
      by_cases c12 : t111 = 3
      · rw [if_pos c12] at H
        have c12b0 : (t111 == 3) = true := beq_iff_eq.mpr c12
        have c12b1 : (t111 != 3) = false := bne_eq_false_iff_eq.mpr c12
        clear c12
        by_cases c13 : t110 = 0
        · rw [if_pos c13] at H
          have c13b0 : (t110 == 0) = true := beq_iff_eq.mpr c13
          have c13b1 : (t110 != 0) = false := bne_eq_false_iff_eq.mpr c13
          clear c13
          obtain rfl := Option.some.inj H
          go_enter Try.func40, Try.ntmps40
          go_wp2_with (first | ((with_reducible refine gate_callee (f := 18) rfl ?_); refine goesL_ (some 8) rfl rfl Try.func18 (by kernel_rfl) rfl #[.int .i64 a0] rfl (by (try simp only [List.map_toArray, List.map_cons, List.map_nil]); first | done | rfl | (simp only [List.length_drop, List.length_take]; rfl)) ?_; (with_reducible refine (kakugyoref02_Side.calls a0 t109 _ A3.out).mono ?_); rintro e w' ⟨rfl, ⟨nd, rfl⟩⟩; refine ⟨_, rfl, ?_⟩) | ((with_reducible refine gate_callee (f := 54) rfl ?_); refine goesL_ (some 10) rfl rfl Try.func54 (by kernel_rfl) rfl #[.int .i64 t109, .int .i64 a1] rfl (by (try simp only [List.map_toArray, List.map_cons, List.map_nil]); first | done | rfl | (simp only [List.length_drop, List.length_take]; rfl)) ?_; (with_reducible refine (kakugyoref03_Far.calls k t109 a1 t110 _ A4.out).mono ?_); rintro e w' ⟨rfl, ⟨nd, rfl⟩⟩; refine ⟨_, rfl, ?_⟩) | ((with_reducible refine gate_callee (f := 36) rfl ?_); refine goesL_ (some 12) rfl rfl Try.func36 (by kernel_rfl) rfl #[.int .i64 a0] rfl (by (try simp only [List.map_toArray, List.map_cons, List.map_nil]); first | done | rfl | (simp only [List.length_drop, List.length_take]; rfl)) ?_; (with_reducible refine (kakugyoref02_Kind.calls a0 t111 _ A5.out).mono ?_); rintro e w' ⟨rfl, ⟨nd, rfl⟩⟩; refine ⟨_, rfl, ?_⟩))
          go_ret
          exact ⟨by first | rfl | (simp; done) | (simp [*]; done), by repeat (first | exact Drawn0.refl _ | apply Drawn0.step)⟩
        · rw [if_neg c13] at H
          have c13b0 : (t110 == 0) = false := beq_eq_false_iff_ne.mpr c13
          have c13b1 : (t110 != 0) = true := bne_iff_ne.mpr c13
          obtain rfl := Option.some.inj H
          go_enter Try.func40, Try.ntmps40
          go_wp2_with (first | ((with_reducible refine gate_callee (f := 18) rfl ?_); refine goesL_ (some 8) rfl rfl Try.func18 (by kernel_rfl) rfl #[.int .i64 a0] rfl (by (try simp only [List.map_toArray, List.map_cons, List.map_nil]); first | done | rfl | (simp only [List.length_drop, List.length_take]; rfl)) ?_; (with_reducible refine (kakugyoref02_Side.calls a0 t109 _ A3.out).mono ?_); rintro e w' ⟨rfl, ⟨nd, rfl⟩⟩; refine ⟨_, rfl, ?_⟩) | ((with_reducible refine gate_callee (f := 54) rfl ?_); refine goesL_ (some 10) rfl rfl Try.func54 (by kernel_rfl) rfl #[.int .i64 t109, .int .i64 a1] rfl (by (try simp only [List.map_toArray, List.map_cons, List.map_nil]); first | done | rfl | (simp only [List.length_drop, List.length_take]; rfl)) ?_; (with_reducible refine (kakugyoref03_Far.calls k t109 a1 t110 _ A4.out).mono ?_); rintro e w' ⟨rfl, ⟨nd, rfl⟩⟩; refine ⟨_, rfl, ?_⟩) | ((with_reducible refine gate_callee (f := 36) rfl ?_); refine goesL_ (some 12) rfl rfl Try.func36 (by kernel_rfl) rfl #[.int .i64 a0] rfl (by (try simp only [List.map_toArray, List.map_cons, List.map_nil]); first | done | rfl | (simp only [List.length_drop, List.length_take]; rfl)) ?_; (with_reducible refine (kakugyoref02_Kind.calls a0 t111 _ A5.out).mono ?_); rintro e w' ⟨rfl, ⟨nd, rfl⟩⟩; refine ⟨_, rfl, ?_⟩))
          go_ret
          exact ⟨by first | rfl | (simp; done) | (simp [*]; done), by repeat (first | exact Drawn0.refl _ | apply Drawn0.step)⟩
      · rw [if_neg c12] at H
        have c12b0 : (t111 == 3) = false := beq_eq_false_iff_ne.mpr c12
        have c12b1 : (t111 != 3) = true := bne_iff_ne.mpr c12
        obtain rfl := Option.some.inj H
        go_enter Try.func40, Try.ntmps40
        go_wp2_with (first | ((with_reducible refine gate_callee (f := 18) rfl ?_); refine goesL_ (some 8) rfl rfl Try.func18 (by kernel_rfl) rfl #[.int .i64 a0] rfl (by (try simp only [List.map_toArray, List.map_cons, List.map_nil]); first | done | rfl | (simp only [List.length_drop, List.length_take]; rfl)) ?_; (with_reducible refine (kakugyoref02_Side.calls a0 t109 _ A3.out).mono ?_); rintro e w' ⟨rfl, ⟨nd, rfl⟩⟩; refine ⟨_, rfl, ?_⟩) | ((with_reducible refine gate_callee (f := 54) rfl ?_); refine goesL_ (some 10) rfl rfl Try.func54 (by kernel_rfl) rfl #[.int .i64 t109, .int .i64 a1] rfl (by (try simp only [List.map_toArray, List.map_cons, List.map_nil]); first | done | rfl | (simp only [List.length_drop, List.length_take]; rfl)) ?_; (with_reducible refine (kakugyoref03_Far.calls k t109 a1 t110 _ A4.out).mono ?_); rintro e w' ⟨rfl, ⟨nd, rfl⟩⟩; refine ⟨_, rfl, ?_⟩) | ((with_reducible refine gate_callee (f := 36) rfl ?_); refine goesL_ (some 12) rfl rfl Try.func36 (by kernel_rfl) rfl #[.int .i64 a0] rfl (by (try simp only [List.map_toArray, List.map_cons, List.map_nil]); first | done | rfl | (simp only [List.length_drop, List.length_take]; rfl)) ?_; (with_reducible refine (kakugyoref02_Kind.calls a0 t111 _ A5.out).mono ?_); rintro e w' ⟨rfl, ⟨nd, rfl⟩⟩; refine ⟨_, rfl, ?_⟩))
        go_ret
        exact ⟨by first | rfl | (simp; done) | (simp [*]; done), by repeat (first | exact Drawn0.refl _ | apply Drawn0.step)⟩

end Go.Proofs.Ytmoeodcmfjnihab.Pa
