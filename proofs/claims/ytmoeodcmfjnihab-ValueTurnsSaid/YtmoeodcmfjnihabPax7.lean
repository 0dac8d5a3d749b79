-- Printed by a program of this session: the kit's printer, with contracts of this session's own among its functions.
import Derived.Test.YtmoeodcmfjnihabPax0
import Derived.Test.YtmoeodcmfjnihabPax2
import Derived.Test.YtmoeodcmfjnihabPax4
import Derived.Test.YtmoeodcmfjnihabPax5
import Derived.Test.YtmoeodcmfjnihabPax6
namespace Go.Proofs.Ytmoeodcmfjnihab.Pa
open Go.RowKit Go.Proofs.YtmoeodcmfjnihabW.PrintWords Go.Proofs.YtmoeodcmfjnihabW.PrintLast Go.Proofs.YtmoeodcmfjnihabW.PrintMore
attribute [local go_sem] max2_int min2_int max_two min_two max_three min_three max_four min_four   -- for this text's walks alone
set_option linter.unusedVariables false
set_option linter.unusedSimpArgs false

/-! ### kakugyolaw17_ValueTurns: function 4 -/
def kakugyolaw17_ValueTurns.t0 (R : List Int) : List Int := List.replicate 81 0 ++ ((R.drop 89).take 8 ++ (R.drop 81).take 8) ++ [IntKind.i8.wrap (1 - R.getD 97 0)]
theorem kakugyolaw17_ValueTurns.t0_len (R : List Int) (h : R.length = 98) : (kakugyolaw17_ValueTurns.t0 R).length = 98 := by simp [kakugyolaw17_ValueTurns.t0, h]
def kakugyolaw17_ValueTurns.turn (R : List Int) : Nat → Nat → List Int → Option (List Int)
  | _, 0, T => some T
  | n, d + 1, T => (kakugyoref02_Side.f (wrap64 (R.getD n 0))).bind fun s => kakugyolaw17_ValueTurns.turn R (n + 1) d (if s = 0 then T.set (80 - n) (IntKind.i8.wrap (R.getD n 0 + 16)) else if s = 1 then T.set (80 - n) (IntKind.i8.wrap (R.getD n 0 - 16)) else T)
theorem kakugyolaw17_ValueTurns.eight (l : List Int) (h : l.length = 8) : ∃ a b c d e f g i : Int, l = [a, b, c, d, e, f, g, i] := by
  match l, h with
  | [a, b, c, d, e, f, g, i], _ => exact ⟨a, b, c, d, e, f, g, i, rfl⟩
theorem kakugyolaw17_ValueTurns.build31 (l m : List Int) (hl : l.length = 8) (hm : m.length = 8) (W : World) : (Instr.build 31 #[(0, .agg (value_Of.pv l)), (1, .agg (value_Of.pv m))]).run Try.prog W = .ok (.agg (value_Of.pv (l ++ m))) W := by
  obtain ⟨a, b, c, d, e, f, g, i, rfl⟩ := kakugyolaw17_ValueTurns.eight l hl
  obtain ⟨a', b', c', d', e', f', g', i', rfl⟩ := kakugyolaw17_ValueTurns.eight m hm
  exact run_build W 31 _ _ (by kernel_rfl)
theorem kakugyolaw17_ValueTurns.build33 (l m : List Int) (s : Int) (hl : l.length = 8) (hm : m.length = 8) (W : World) : (Instr.build 33 #[(2, .int .i8 s), (1, .agg (value_Of.pv (l ++ m)))]).run Try.prog W = .ok (.agg (value_Of.pv (List.replicate 81 0 ++ (l ++ m) ++ [s]))) W := by
  obtain ⟨a, b, c, d, e, f, g, i, rfl⟩ := kakugyolaw17_ValueTurns.eight l hl
  obtain ⟨a', b', c', d', e', f', g', i', rfl⟩ := kakugyolaw17_ValueTurns.eight m hm
  exact run_build W 33 _ _ (by kernel_rfl)
section
variable {ops : Array Oper} {rest : List Oper} {o : Oper} {a : Act} {W : World} {K : Act → World → Prop} {Q : Exit → Act → World → Prop}
theorem kakugyolaw17_ValueTurns.wp_built (t : TypeId) (parts : Array (Nat × Operand)) (ho : o.op = .build t parts) (vs : Array (Nat × Value)) (he : (parts.map fun (i, x) => (i, a.eval x)) = vs) {cells : Array Value} (hb : (Instr.build t vs).run Try.prog W = .ok (.agg cells) W) (h : K (a.put o.dst (.agg cells)) W) : o.wp Try.prog a W K Q := by
  subst he
  unfold Oper.wp execOp
  simp only [ho, Sem.run_bind, hb, Result.andThen_ok]
  exact h
theorem kakugyolaw17_ValueTurns.built (hgd : o.guard = none) (t : TypeId) (parts : Array (Nat × Operand)) (ho : o.op = .build t parts) (vs : Array (Nat × Value)) (he : (parts.map fun (i, x) => (i, a.eval x)) = vs) {cells : Array Value} (hb : (Instr.build t vs).run Try.prog W = .ok (.agg cells) W) (h : wpList Try.prog ops Q rest (a.put o.dst (.agg cells)) W) : wpList Try.prog ops Q (o :: rest) a W :=
  wpList_plain hgd fun _ hK => kakugyolaw17_ValueTurns.wp_built t parts ho vs he hb (hK _ _ h)
end
set_option maxRecDepth 100000 in
set_option maxHeartbeats 16000000 in
theorem kakugyolaw17_ValueTurns.turns_calls (cs R : List Int) (w : World) (hl : cs.length = 98) (hR : kakugyoref09_Clean.f cs = some R) (hK : ∀ v : Int, ∃ k, kakugyoref02_Kind.f (wrap64 v) = some k) (hKR : ∀ v : Int, ∃ k, kakugyoref02_Kind.f (wrap64 v) = some k ∧ ∃ r, kakugyoref02_Raw.f 9 k = some r) (hT : ∀ n : Nat, n < 8 → ∃ t, kakugyoref02_Total.f (n : Int) = some t) (hD : ∀ (v : Int) (n : Nat), n < 81 → ∃ b, kakugyoref03_Dead.f 9 (wrap64 v) (n : Int) = some b)
    (hP : R.length = 98 → (R.getD 97 0 = 0 ∨ R.getD 97 0 = 1) → ∃ T v, kakugyolaw17_ValueTurns.turn R 0 81 (kakugyolaw17_ValueTurns.t0 R) = some T ∧ T.length = 98 ∧ value_Of.f R = some v ∧ value_Of.f (R.set 97 (IntKind.i8.wrap (1 - R.getD 97 0))) = some (wrap64 (-v)) ∧ value_Of.f T = some v) :
    Calls Try.prog 4 #[.agg (value_Of.pv cs)] w fun e w' => e = .returned (.bool true) ∧ Below w.heap.size w w' := by
  have hz := board_Start.zero
  have HKK := Aside0.mk hK
  have HKR := Aside0.mk hKR
  have HTT := Aside0.mk hT
  have HDD := Aside0.mk hD
  have HPP := Aside0.mk hP
  have HR := Aside0.mk hR
  have HZ : Aside0 ((value_Of.pv board_Start.zl).size = 98) := ⟨by rw [value_Of.pv_size, board_Start.zl_len]⟩
  clear hK hKR hT hD hP hR
  have B1 : (w.alloc (Obj.cells (value_Of.pv cs) 33)).heap[w.heap.size]? = some (.cells (value_Of.pv cs) 33 (0, 0)) := blk_new w _
  have BB : Below w.heap.size w (w.alloc (Obj.cells (value_Of.pv cs) 33)) := below_alloc (Below.refl _ _) _
  go_enter Try.func4, Try.ntmps4
  go_upto_region 1 with (fail)
  generalize w.alloc (Obj.cells (value_Of.pv cs) 33) = W at *
  have K1 := Aside0.mk B1
  have KB := Aside0.mk BB
  clear B1 BB
  go_upto_region 6 with (first | (go_at_call 10; (with_reducible refine (kakugyolaw17_values.calls true _ rfl).mono ?_); rintro e w5 ⟨rfl, hb⟩; have nB := Aside0.mk (below_step KB.out hb); have nK1 := Aside0.mk (blk_below K1.out hb); clear KB hb K1; have KB := nB; clear nB; have K1 := nK1; clear nK1) | ((with_reducible refine gate_dst (N := 9) rfl ?_); (try (refine gate_guard (by rfl) ?_; dsimp only)); refine value_Of.load rfl 33 (.tmp 1) rfl rfl K1.out Try.underlying33 rfl value_Of.infoP (by omega) ?_; rw [show (cs.drop 0).take 98 = cs by rw [List.drop_zero, List.take_of_length_le (by omega)]]) | (go_at_call 16; (with_reducible refine (kakugyoref09_Clean.clean_calls cs R _ hl HR.out).mono ?_); rintro e w5 ⟨rfl, hRl, hb⟩; have nB := Aside0.mk (below_step KB.out hb); have nK1 := Aside0.mk (blk_below K1.out hb); clear KB hb K1; have KB := nB; clear nB; have K1 := nK1; clear nK1) | ((with_reducible refine gate_store (t := 33) (p := 1) (v := .tmp 10) rfl ?_); refine value_Of.store rfl 33 (.tmp 1) (.tmp 10) rfl rfl rfl K1.out (by rw [value_Of.pv_size, hl]) hRl value_Of.infoP ?_; intro W3 s1 s2 s3; have n1 := Aside0.mk s1; have nB := Aside0.mk (s2 _ _ (Nat.le_refl _) KB.out); clear s1 s2 s3 K1 KB; have K1 := n1; have KB := nB; clear n1 nB) | ((with_reducible refine gate_dst (N := 11) rfl ?_); (try (refine gate_guard (by rfl) ?_; dsimp only)); refine value_Of.load rfl 33 (.tmp 1) rfl rfl K1.out Try.underlying33 rfl value_Of.infoP (by omega) ?_; rw [show (R.drop 0).take 98 = R by rw [List.drop_zero, List.take_of_length_le (by omega)]]) | (go_at_call 17; (with_reducible refine (kakugyoref05_Check.check_calls R _ hRl HKK.out HKR.out HTT.out HDD.out).mono ?_); rintro e w5 ⟨r, rfl, hr0, hb⟩; have HR0 := Aside0.mk hr0; clear hr0; have nB := Aside0.mk (below_step KB.out hb); have nK1 := Aside0.mk (blk_below K1.out hb); clear KB hb K1; have KB := nB; clear nB; have K1 := nK1; clear nK1))
  all_goals try (go_ret; exact ⟨rfl, KB.out⟩)
  have hr : (r != 0) = false := by assumption
  obtain ⟨T, v, e1, e2, e3, e4, e5⟩ := HPP.out hRl (HR0.out (by simpa using hr))
  clear HPP HR0 HR HKK HKR HTT HDD
  generalize (r != 0) = t1 at *
  obtain rfl : t1 = false := hr
  obtain ⟨l1, hl1⟩ : ∃ l1, l1 = (R.drop 89).take 8 := ⟨_, rfl⟩
  obtain ⟨l0, hl0⟩ : ∃ l0, l0 = (R.drop 81).take 8 := ⟨_, rfl⟩
  have n1 : l1.length = 8 := by rw [hl1]; simp; omega
  have n0 : l0.length = 8 := by rw [hl0]; simp; omega
  have hTT : List.replicate 81 0 ++ (l1 ++ l0) ++ [IntKind.i8.wrap (1 - R.getD 97 0)] = kakugyolaw17_ValueTurns.t0 R := by rw [hl1, hl0]; rfl
  have hTL := kakugyolaw17_ValueTurns.t0_len R hRl
  obtain ⟨s, hs⟩ : ∃ s, s = R.getD 97 0 := ⟨_, rfl⟩
  rw [← hs] at hTT e4
  have u31 := kakugyolaw17_ValueTurns.build31 l1 l0 n1 n0
  have u33 := kakugyolaw17_ValueTurns.build33 l1 l0 (IntKind.i8.wrap (1 - s)) n1 n0
  rw [hTT] at u33
  have U31 := Aside0.mk u31
  have U33 := Aside0.mk u33
  clear u31 u33
  have hml : (R.set 97 (IntKind.i8.wrap (1 - s))).length = 98 := by rw [List.length_set, hRl]
  generalize hm : R.set 97 (IntKind.i8.wrap (1 - s)) = M at *
  generalize kakugyolaw17_ValueTurns.t0 R = T0 at *
  have HM := Aside0.mk hm
  have HS := Aside0.mk hs
  have HL1 := Aside0.mk hl1
  have HL0 := Aside0.mk hl0
  have E1 := Aside0.mk e1
  have E3 := Aside0.mk e3
  have E4 := Aside0.mk e4
  have E5 := Aside0.mk e5
  clear hm hs hl1 hl0 e1 e3 e4 e5 hTT n1 n0
  go_upto_region 7 with (first | ((with_reducible refine gate_dst (N := 14) rfl ?_); (try (refine gate_guard (by rfl) ?_; dsimp only)); refine value_Of.load rfl 33 (.tmp 1) rfl rfl K1.out Try.underlying33 rfl value_Of.infoP (by omega) ?_; rw [show (R.drop 0).take 98 = R by rw [List.drop_zero, List.take_of_length_le (by omega)]]) | ((with_reducible refine gate_store (t := 33) (p := 3) (v := .tmp 14) rfl ?_); refine value_Of.store rfl 33 (.tmp 3) (.tmp 14) rfl rfl rfl (blk_new _ _) HZ.out hRl value_Of.infoP ?_; intro W3 s1 s2 s3; have n2 := Aside0.mk s1; have nB := Aside0.mk (s2 w.heap.size w KB.out.size (below_alloc KB.out _)); have HG := Aside0.mk KB.out.size; have hlt := blk_lt K1.out; have HN := Aside0.mk (Nat.ne_of_lt hlt); have n1 := Aside0.mk ((s3 _ (Nat.ne_of_lt hlt)).trans (blk_alloc K1.out _)); clear s1 s2 s3 hlt KB K1; have K1 := n1; have K2 := n2; have KB := nB; clear n1 n2 nB))
  generalize w5.heap.size = g2 at *
  have c97 : W3.cell? ⟨w.heap.size, 97, none⟩ = some (.int .i8 s) := (blk_cell K1.out 97).trans (by rw [HS.out]; exact value_Of.pv_get R 97 (by omega))
  have f97 := blk_frozen K2.out 97
  have d97 : W3.cell? ⟨g2, 97, none⟩ = some (.int .i8 s) := (blk_cell K2.out 97).trans (by rw [HS.out]; exact value_Of.pv_get R 97 (by omega))
  go_upto_region 8 with (fail)
  have B2 := (blk_set K2.out 97 (.int .i8 (IntKind.i8.wrap (1 - s)))).trans (by rw [value_Of.pv_set, HM.out])
  have B1 := blk_far K1.out (p := ⟨g2, 97, none⟩) HN.out (.int .i8 (IntKind.i8.wrap (1 - s)))
  have BB := (KB.out).setCell (p := ⟨g2, 97, none⟩) HG.out (.int .i8 (IntKind.i8.wrap (1 - s)))
  generalize W3.setCell ⟨g2, 97, none⟩ (.int .i8 (IntKind.i8.wrap (1 - s))) = W4 at *
  clear K1 K2 KB c97 f97 d97
  have K1 := Aside0.mk B1
  have K2 := Aside0.mk B2
  have KB := Aside0.mk BB
  clear B1 B2 BB HM HZ
  have HZ : Aside0 ((value_Of.pv board_Start.zl).size = 98) := ⟨by rw [value_Of.pv_size, board_Start.zl_len]⟩
  have c97 : W4.cell? ⟨w.heap.size, 97, none⟩ = some (.int .i8 s) := (blk_cell K1.out 97).trans (by rw [HS.out]; exact value_Of.pv_get R 97 (by omega))
  go_upto_region 9 with (first | ((with_reducible refine gate_dst (N := 24) rfl ?_); (try (refine gate_guard (by rfl) ?_; dsimp only)); refine value_Of.load (off := 89) rfl 30 (.tmp 23) rfl rfl K1.out Try.underlying30 rfl value_Of.info8 (by omega) ?_; rw [show (R.drop 89).take 8 = l1 from HL1.out.symm]) | ((with_reducible refine gate_dst (N := 27) rfl ?_); (try (refine gate_guard (by rfl) ?_; dsimp only)); refine value_Of.load (off := 81) rfl 30 (.tmp 26) rfl rfl K1.out Try.underlying30 rfl value_Of.info8 (by omega) ?_; rw [show (R.drop 81).take 8 = l0 from HL0.out.symm]) | ((with_reducible refine gate_dst (N := 28) rfl ?_); refine kakugyolaw17_ValueTurns.built rfl 31 #[(0, .tmp 24), (1, .tmp 27)] rfl #[(0, .agg (value_Of.pv l1)), (1, .agg (value_Of.pv l0))] (by (try simp only [List.map_toArray, List.map_cons, List.map_nil]); first | done | rfl) (U31.out _) ?_) | ((with_reducible refine gate_dst (N := 29) rfl ?_); refine kakugyolaw17_ValueTurns.built rfl 33 #[(2, .tmp 21), (1, .tmp 28)] rfl #[(2, .int .i8 (IntKind.i8.wrap (1 - s))), (1, .agg (value_Of.pv (l1 ++ l0)))] (by (try simp only [List.map_toArray, List.map_cons, List.map_nil]); first | done | rfl) (U33.out _) ?_) | ((with_reducible refine gate_store (t := 33) (p := 4) (v := .tmp 29) rfl ?_); refine value_Of.store rfl 33 (.tmp 4) (.tmp 29) rfl rfl rfl (blk_new _ _) HZ.out hTL value_Of.infoP ?_; intro W3 s1 s2 s3; have n3 := Aside0.mk s1; have nB := Aside0.mk (s2 w.heap.size w KB.out.size (below_alloc KB.out _)); have HG3 := Aside0.mk KB.out.size; have hlt := blk_lt K1.out; have hlt2 := blk_lt K2.out; have HN3 := Aside0.mk (Nat.ne_of_lt hlt); have HN23 := Aside0.mk (Nat.ne_of_lt hlt2); have n1 := Aside0.mk ((s3 _ (Nat.ne_of_lt hlt)).trans (blk_alloc K1.out _)); have n2 := Aside0.mk ((s3 _ (Nat.ne_of_lt hlt2)).trans (blk_alloc K2.out _)); clear s1 s2 s3 hlt hlt2 KB K1 K2; have K1 := n1; have K2 := n2; have K3 := n3; have KB := nB; clear n1 n2 n3 nB))
  generalize W4.heap.size = g3 at *
  clear c97 U31 U33 HZ HL1 HL0 HS
  go_wp2
  go_loopg [5] 82 (fun gf s5 wx => ∃ (n : Nat) (l : List Int), s5 = .int .i64 n ∧ n ≤ 81 ∧ l.length = 98 ∧ Aside0 (kakugyolaw17_ValueTurns.turn R n (81 - n) l = some T) ∧ Aside0 (wx.heap[w.heap.size]? = some (.cells (value_Of.pv R) 33 (0, 0))) ∧ Aside0 (wx.heap[g2]? = some (.cells (value_Of.pv M) 33 (0, 0))) ∧ Aside0 (wx.heap[g3]? = some (.cells (value_Of.pv l) 33 (0, 0))) ∧ Aside0 (Below w.heap.size w wx) ∧ 82 ≤ gf + n)
  case atStart => exact ⟨0, T0, rfl, by omega, hTL, E1, K1, K2, K3, KB, by omega⟩
  case round =>
    clear K1 K2 K3 KB E1
    obtain ⟨n, l, rfl, hn, hll, HR, K1, K2, K3, KB, hgf⟩ := hrel
    by_cases hend : n = 81
    · subst hend
      have er : l = T := Option.some.inj HR.out
      subst er
      clear HR
      have HQ : Aside0 ((wrap64 (-v) == IntKind.i64.wrap (-v)) = true) := ⟨by rw [i64_w]; exact beq_self_eq_true _⟩
      go_upto_region 18 with (fail)
      go_cut [2] (fun s2 wx => s2 = .bool true ∧ Aside0 (Below w.heap.size w wx))
      case first =>
        refine wp_region_held_drew (S := fun _ => True) (by kernel_rfl) trivial (fun _ => ?_)
        have nK1 := Aside0.mk (blk_drew K1.out)
        have nK2 := Aside0.mk (blk_drew K2.out)
        have nK3 := Aside0.mk (blk_drew K3.out)
        have nB := Aside0.mk (below_drew KB.out)
        clear K1 K2 K3 KB
        have K1 := nK1
        have K2 := nK2
        have K3 := nK3
        have KB := nB
        clear nK1 nK2 nK3 nB
        refine wpAnyH_ready (rs := [0, 2]) (by kernel_rfl) (by simp) ?_
        refine AllReadyH.cons rfl (fun K hK => ?_) ?_
        · show (if Region.wanted ⟨some 57, .load 33 (.tmp 3), _, _, _, none⟩ _ = true then Oper.wp _ ⟨some 57, .load 33 (.tmp 3), _, _, _, none⟩ _ _ _ _ else _)
          rw [if_pos (by rfl)]
          refine value_Of.wp_load 33 (.tmp 3) rfl rfl K2.out Try.underlying33 rfl value_Of.infoP (by omega) ?_
          rw [show (M.drop 0).take 98 = M by rw [List.drop_zero, List.take_of_length_le (by omega)]]
          refine hK.out _ _ trivial (fun _ => ?_)
          clear hK K
          (try simp only [Act.put, List.setIfInBounds_toArray, List.set_cons_zero, List.set_cons_succ])
          refine wpAnyH_ready (rs := [1, 2]) (by kernel_rfl) (by simp) ?_
          refine AllReadyH.cons rfl (fun K hK => ?_) ?_
          · show (if Region.wanted ⟨some 58, .call _, _, _, _, none⟩ _ = true then Oper.wp _ ⟨some 58, .call _, _, _, _, none⟩ _ _ _ _ else _)
            go_simp
            refine (value_Of.of_calls M _ (wrap64 (-v)) hml E4.out).mono ?_
            rintro e w7 ⟨rfl, hb⟩
            have nK1 := Aside0.mk (blk_below K1.out hb)
            have nK2 := Aside0.mk (blk_below K2.out hb)
            have nK3 := Aside0.mk (blk_below K3.out hb)
            have nB := Aside0.mk (below_step KB.out hb)
            clear K1 K2 K3 KB hb
            have K1 := nK1
            have K2 := nK2
            have K3 := nK3
            have KB := nB
            clear nK1 nK2 nK3 nB
            refine hK.out _ _ trivial (fun _ => ?_)
            clear hK K
            (try simp only [Act.put, List.setIfInBounds_toArray, List.set_cons_zero, List.set_cons_succ])
            refine wpAnyH_ready (rs := [2]) (by kernel_rfl) (by simp) ?_
            refine AllReadyH.cons rfl (fun K hK => ?_) AllReadyH.nil
            show (if Region.wanted ⟨some 59, .load 33 (.tmp 1), _, _, _, none⟩ _ = true then Oper.wp _ ⟨some 59, .load 33 (.tmp 1), _, _, _, none⟩ _ _ _ _ else _)
            rw [if_pos (by rfl)]
            refine value_Of.wp_load 33 (.tmp 1) rfl rfl K1.out Try.underlying33 rfl value_Of.infoP (by omega) ?_
            rw [show (R.drop 0).take 98 = R by rw [List.drop_zero, List.take_of_length_le (by omega)]]
            refine hK.out _ _ trivial (fun _ => ?_)
            clear hK K
            (try simp only [Act.put, List.setIfInBounds_toArray, List.set_cons_zero, List.set_cons_succ])
            refine wpAnyH_ready (rs := [3]) (by kernel_rfl) (by simp) ?_
            refine AllReadyH.cons rfl (fun K hK => ?_) AllReadyH.nil
            show (if Region.wanted ⟨some 60, .call _, _, _, _, none⟩ _ = true then Oper.wp _ ⟨some 60, .call _, _, _, _, none⟩ _ _ _ _ else _)
            go_simp
            refine (value_Of.of_calls R _ (v) hRl E3.out).mono ?_
            rintro e w7 ⟨rfl, hb⟩
            have nK1 := Aside0.mk (blk_below K1.out hb)
            have nK2 := Aside0.mk (blk_below K2.out hb)
            have nK3 := Aside0.mk (blk_below K3.out hb)
            have nB := Aside0.mk (below_step KB.out hb)
            clear K1 K2 K3 KB hb
            have K1 := nK1
            have K2 := nK2
            have K3 := nK3
            have KB := nB
            clear nK1 nK2 nK3 nB
            refine hK.out _ _ trivial (fun _ => ?_)
            clear hK K
            (try simp only [Act.put, List.setIfInBounds_toArray, List.set_cons_zero, List.set_cons_succ])
            refine wpAnyH_ready (rs := [4]) (by kernel_rfl) (by simp) ?_
            refine AllReadyH.cons rfl (fun K hK => ?_) AllReadyH.nil
            show (if Region.wanted ⟨some 61, .unOp .neg 3 (.tmp 60), _, _, _, none⟩ _ = true then Oper.wp _ ⟨some 61, .unOp .neg 3 (.tmp 60), _, _, _, none⟩ _ _ _ _ else _)
            go_simp
            refine hK.out _ _ trivial (fun _ => ?_)
            clear hK K
            (try simp only [Act.put, List.setIfInBounds_toArray, List.set_cons_zero, List.set_cons_succ])
            refine wpAnyH_ready (rs := [5]) (by kernel_rfl) (by simp) ?_
            refine AllReadyH.cons rfl (fun K hK => ?_) AllReadyH.nil
            show (if Region.wanted ⟨some 62, .binOp .eql 3 (.tmp 58) (.tmp 61) 3, _, _, _, none⟩ _ = true then Oper.wp _ ⟨some 62, .binOp .eql 3 (.tmp 58) (.tmp 61) 3, _, _, _, none⟩ _ _ _ _ else _)
            go_simp
            rw [HQ.out]
            refine hK.out _ _ trivial (fun _ => ?_)
            clear hK K
            (try simp only [Act.put, List.setIfInBounds_toArray, List.set_cons_zero, List.set_cons_succ])
            refine wpAnyH_ready (rs := [6]) (by kernel_rfl) (by simp) ?_
            refine AllReadyH.cons rfl (fun K hK => ?_) AllReadyH.nil
            show (if Region.wanted ⟨some 63, .move (.tmp 62), _, _, _, none⟩ _ = true then Oper.wp _ ⟨some 63, .move (.tmp 62), _, _, _, none⟩ _ _ _ _ else _)
            go_simp
            refine hK.out _ _ trivial (fun _ => ?_)
            clear hK K
            (try simp only [Act.put, List.setIfInBounds_toArray, List.set_cons_zero, List.set_cons_succ])
            refine wpAnyH_ready (rs := [7, 9]) (by kernel_rfl) (by simp) ?_
            refine AllReadyH.cons rfl (fun K hK => ?_) ?_
            · show (if Region.wanted ⟨some 64, .load 33 (.tmp 4), _, _, _, some (6, true)⟩ _ = true then Oper.wp _ ⟨some 64, .load 33 (.tmp 4), _, _, _, some (6, true)⟩ _ _ _ _ else _)
              rw [if_pos (by rfl)]
              refine value_Of.wp_load 33 (.tmp 4) rfl rfl K3.out Try.underlying33 rfl value_Of.infoP (by omega) ?_
              rw [show (l.drop 0).take 98 = l by rw [List.drop_zero, List.take_of_length_le (by omega)]]
              refine hK.out _ _ trivial (fun _ => ?_)
              clear hK K
              (try simp only [Act.put, List.setIfInBounds_toArray, List.set_cons_zero, List.set_cons_succ])
              refine wpAnyH_ready (rs := [8, 9]) (by kernel_rfl) (by simp) ?_
              refine AllReadyH.cons rfl (fun K hK => ?_) ?_
              · show (if Region.wanted ⟨some 65, .call _, _, _, _, some (6, true)⟩ _ = true then Oper.wp _ ⟨some 65, .call _, _, _, _, some (6, true)⟩ _ _ _ _ else _)
                go_simp
                refine (value_Of.of_calls l _ (v) e2 E5.out).mono ?_
                rintro e w7 ⟨rfl, hb⟩
                have nK1 := Aside0.mk (blk_below K1.out hb)
                have nK2 := Aside0.mk (blk_below K2.out hb)
                have nK3 := Aside0.mk (blk_below K3.out hb)
                have nB := Aside0.mk (below_step KB.out hb)
                clear K1 K2 K3 KB hb
                have K1 := nK1
                have K2 := nK2
                have K3 := nK3
                have KB := nB
                clear nK1 nK2 nK3 nB
                refine hK.out _ _ trivial (fun _ => ?_)
                clear hK K
                (try simp only [Act.put, List.setIfInBounds_toArray, List.set_cons_zero, List.set_cons_succ])
                refine wpAnyH_ready (rs := [9]) (by kernel_rfl) (by simp) ?_
                refine AllReadyH.cons rfl (fun K hK => ?_) AllReadyH.nil
                show (if Region.wanted ⟨some 66, .load 33 (.tmp 1), _, _, _, some (6, true)⟩ _ = true then Oper.wp _ ⟨some 66, .load 33 (.tmp 1), _, _, _, some (6, true)⟩ _ _ _ _ else _)
                rw [if_pos (by rfl)]
                refine value_Of.wp_load 33 (.tmp 1) rfl rfl K1.out Try.underlying33 rfl value_Of.infoP (by omega) ?_
                rw [show (R.drop 0).take 98 = R by rw [List.drop_zero, List.take_of_length_le (by omega)]]
                refine hK.out _ _ trivial (fun _ => ?_)
                clear hK K
                (try simp only [Act.put, List.setIfInBounds_toArray, List.set_cons_zero, List.set_cons_succ])
                refine wpAnyH_ready (rs := [10]) (by kernel_rfl) (by simp) ?_
                refine AllReadyH.cons rfl (fun K hK => ?_) AllReadyH.nil
                show (if Region.wanted ⟨some 67, .call _, _, _, _, some (6, true)⟩ _ = true then Oper.wp _ ⟨some 67, .call _, _, _, _, some (6, true)⟩ _ _ _ _ else _)
                go_simp
                refine (value_Of.of_calls R _ (v) hRl E3.out).mono ?_
                rintro e w7 ⟨rfl, hb⟩
                have nK1 := Aside0.mk (blk_below K1.out hb)
                have nK2 := Aside0.mk (blk_below K2.out hb)
                have nK3 := Aside0.mk (blk_below K3.out hb)
                have nB := Aside0.mk (below_step KB.out hb)
                clear K1 K2 K3 KB hb
                have K1 := nK1
                have K2 := nK2
                have K3 := nK3
                have KB := nB
                clear nK1 nK2 nK3 nB
                refine hK.out _ _ trivial (fun _ => ?_)
                clear hK K
                (try simp only [Act.put, List.setIfInBounds_toArray, List.set_cons_zero, List.set_cons_succ])
                refine wpAnyH_ready (rs := [11]) (by kernel_rfl) (by simp) ?_
                refine AllReadyH.cons rfl (fun K hK => ?_) AllReadyH.nil
                show (if Region.wanted ⟨some 68, .binOp .eql 3 (.tmp 65) (.tmp 67) 3, _, _, _, some (6, true)⟩ _ = true then Oper.wp _ ⟨some 68, .binOp .eql 3 (.tmp 65) (.tmp 67) 3, _, _, _, some (6, true)⟩ _ _ _ _ else _)
                go_simp
                refine hK.out _ _ trivial (fun _ => ?_)
                clear hK K
                (try simp only [Act.put, List.setIfInBounds_toArray, List.set_cons_zero, List.set_cons_succ])
                refine wpAnyH_ready (rs := [12]) (by kernel_rfl) (by simp) ?_
                refine AllReadyH.cons rfl (fun K hK => ?_) AllReadyH.nil
                show (if Region.wanted ⟨some 69, .pick (.tmp 63) (.tmp 68) (.const (.bool false)), _, _, _, none⟩ _ = true then Oper.wp _ ⟨some 69, .pick (.tmp 63) (.tmp 68) (.const (.bool false)), _, _, _, none⟩ _ _ _ _ else _)
                go_simp
                refine hK.out _ _ trivial (fun _ => ?_)
                clear hK K
                (try simp only [Act.put, List.setIfInBounds_toArray, List.set_cons_zero, List.set_cons_succ])
                refine wpAnyH_ready (rs := [13]) (by kernel_rfl) (by simp) ?_
                refine AllReadyH.cons rfl (fun K hK => ?_) AllReadyH.nil
                show (if Region.wanted ⟨some 2, .assign (.tmp 69), _, _, _, none⟩ _ = true then Oper.wp _ ⟨some 2, .assign (.tmp 69), _, _, _, none⟩ _ _ _ _ else _)
                go_simp
                refine hK.out _ _ trivial (fun _ => ?_)
                clear hK K
                (try simp only [Act.put, List.setIfInBounds_toArray, List.set_cons_zero, List.set_cons_succ])
                refine wpAnyH_done (by kernel_rfl) ?_ _
                go_wp2
                go_meet
                exact ⟨rfl, KB⟩
              refine AllReadyH.cons rfl (fun K hK => ?_) AllReadyH.nil
              show (if Region.wanted ⟨some 66, .load 33 (.tmp 1), _, _, _, some (6, true)⟩ _ = true then Oper.wp _ ⟨some 66, .load 33 (.tmp 1), _, _, _, some (6, true)⟩ _ _ _ _ else _)
              rw [if_pos (by rfl)]
              refine value_Of.wp_load 33 (.tmp 1) rfl rfl K1.out Try.underlying33 rfl value_Of.infoP (by omega) ?_
              rw [show (R.drop 0).take 98 = R by rw [List.drop_zero, List.take_of_length_le (by omega)]]
              refine hK.out _ _ trivial (fun _ => ?_)
              clear hK K
              (try simp only [Act.put, List.setIfInBounds_toArray, List.set_cons_zero, List.set_cons_succ])
              refine wpAnyH_ready (rs := [8]) (by kernel_rfl) (by simp) ?_
              refine AllReadyH.cons rfl (fun K hK => ?_) AllReadyH.nil
              show (if Region.wanted ⟨some 65, .call _, _, _, _, some (6, true)⟩ _ = true then Oper.wp _ ⟨some 65, .call _, _, _, _, some (6, true)⟩ _ _ _ _ else _)
              go_simp
              refine (value_Of.of_calls l _ (v) e2 E5.out).mono ?_
              rintro e w7 ⟨rfl, hb⟩
              have nK1 := Aside0.mk (blk_below K1.out hb)
              have nK2 := Aside0.mk (blk_below K2.out hb)
              have nK3 := Aside0.mk (blk_below K3.out hb)
              have nB := Aside0.mk (below_step KB.out hb)
              clear K1 K2 K3 KB hb
              have K1 := nK1
              have K2 := nK2
              have K3 := nK3
              have KB := nB
              clear nK1 nK2 nK3 nB
              refine hK.out _ _ trivial (fun _ => ?_)
              clear hK K
              (try simp only [Act.put, List.setIfInBounds_toArray, List.set_cons_zero, List.set_cons_succ])
              refine wpAnyH_ready (rs := [10]) (by kernel_rfl) (by simp) ?_
              refine AllReadyH.cons rfl (fun K hK => ?_) AllReadyH.nil
              show (if Region.wanted ⟨some 67, .call _, _, _, _, some (6, true)⟩ _ = true then Oper.wp _ ⟨some 67, .call _, _, _, _, some (6, true)⟩ _ _ _ _ else _)
              go_simp
              refine (value_Of.of_calls R _ (v) hRl E3.out).mono ?_
              rintro e w7 ⟨rfl, hb⟩
              have nK1 := Aside0.mk (blk_below K1.out hb)
              have nK2 := Aside0.mk (blk_below K2.out hb)
              have nK3 := Aside0.mk (blk_below K3.out hb)
              have nB := Aside0.mk (below_step KB.out hb)
              clear K1 K2 K3 KB hb
              have K1 := nK1
              have K2 := nK2
              have K3 := nK3
              have KB := nB
              clear nK1 nK2 nK3 nB
              refine hK.out _ _ trivial (fun _ => ?_)
              clear hK K
              (try simp only [Act.put, List.setIfInBounds_toArray, List.set_cons_zero, List.set_cons_succ])
              refine wpAnyH_ready (rs := [11]) (by kernel_rfl) (by simp) ?_
              refine AllReadyH.cons rfl (fun K hK => ?_) AllReadyH.nil
              show (if Region.wanted ⟨some 68, .binOp .eql 3 (.tmp 65) (.tmp 67) 3, _, _, _, some (6, true)⟩ _ = true then Oper.wp _ ⟨some 68, .binOp .eql 3 (.tmp 65) (.tmp 67) 3, _, _, _, some (6, true)⟩ _ _ _ _ else _)
              go_simp
              refine hK.out _ _ trivial (fun _ => ?_)
              clear hK K
              (try simp only [Act.put, List.setIfInBounds_toArray, List.set_cons_zero, List.set_cons_succ])
              refine wpAnyH_ready (rs := [12]) (by kernel_rfl) (by simp) ?_
              refine AllReadyH.cons rfl (fun K hK => ?_) AllReadyH.nil
              show (if Region.wanted ⟨some 69, .pick (.tmp 63) (.tmp 68) (.const (.bool false)), _, _, _, none⟩ _ = true then Oper.wp _ ⟨some 69, .pick (.tmp 63) (.tmp 68) (.const (.bool false)), _, _, _, none⟩ _ _ _ _ else _)
              go_simp
              refine hK.out _ _ trivial (fun _ => ?_)
              clear hK K
              (try simp only [Act.put, List.setIfInBounds_toArray, List.set_cons_zero, List.set_cons_succ])
              refine wpAnyH_ready (rs := [13]) (by kernel_rfl) (by simp) ?_
              refine AllReadyH.cons rfl (fun K hK => ?_) AllReadyH.nil
              show (if Region.wanted ⟨some 2, .assign (.tmp 69), _, _, _, none⟩ _ = true then Oper.wp _ ⟨some 2, .assign (.tmp 69), _, _, _, none⟩ _ _ _ _ else _)
              go_simp
              refine hK.out _ _ trivial (fun _ => ?_)
              clear hK K
              (try simp only [Act.put, List.setIfInBounds_toArray, List.set_cons_zero, List.set_cons_succ])
              refine wpAnyH_done (by kernel_rfl) ?_ _
              go_wp2
              go_meet
              exact ⟨rfl, KB⟩
            refine AllReadyH.cons rfl (fun K hK => ?_) AllReadyH.nil
            show (if Region.wanted ⟨some 66, .load 33 (.tmp 1), _, _, _, some (6, true)⟩ _ = true then Oper.wp _ ⟨some 66, .load 33 (.tmp 1), _, _, _, some (6, true)⟩ _ _ _ _ else _)
            rw [if_pos (by rfl)]
            refine value_Of.wp_load 33 (.tmp 1) rfl rfl K1.out Try.underlying33 rfl value_Of.infoP (by omega) ?_
            rw [show (R.drop 0).take 98 = R by rw [List.drop_zero, List.take_of_length_le (by omega)]]
            refine hK.out _ _ trivial (fun _ => ?_)
            clear hK K
            (try simp only [Act.put, List.setIfInBounds_toArray, List.set_cons_zero, List.set_cons_succ])
            refine wpAnyH_ready (rs := [7]) (by kernel_rfl) (by simp) ?_
            refine AllReadyH.cons rfl (fun K hK => ?_) AllReadyH.nil
            show (if Region.wanted ⟨some 64, .load 33 (.tmp 4), _, _, _, some (6, true)⟩ _ = true then Oper.wp _ ⟨some 64, .load 33 (.tmp 4), _, _, _, some (6, true)⟩ _ _ _ _ else _)
            rw [if_pos (by rfl)]
            refine value_Of.wp_load 33 (.tmp 4) rfl rfl K3.out Try.underlying33 rfl value_Of.infoP (by omega) ?_
            rw [show (l.drop 0).take 98 = l by rw [List.drop_zero, List.take_of_length_le (by omega)]]
            refine hK.out _ _ trivial (fun _ => ?_)
            clear hK K
            (try simp only [Act.put, List.setIfInBounds_toArray, List.set_cons_zero, List.set_cons_succ])
            refine wpAnyH_ready (rs := [8]) (by kernel_rfl) (by simp) ?_
            refine AllReadyH.cons rfl (fun K hK => ?_) AllReadyH.nil
            show (if Region.wanted ⟨some 65, .call _, _, _, _, some (6, true)⟩ _ = true then Oper.wp _ ⟨some 65, .call _, _, _, _, some (6, true)⟩ _ _ _ _ else _)
            go_simp
            refine (value_Of.of_calls l _ (v) e2 E5.out).mono ?_
            rintro e w7 ⟨rfl, hb⟩
            have nK1 := Aside0.mk (blk_below K1.out hb)
            have nK2 := Aside0.mk (blk_below K2.out hb)
            have nK3 := Aside0.mk (blk_below K3.out hb)
            have nB := Aside0.mk (below_step KB.out hb)
            clear K1 K2 K3 KB hb
            have K1 := nK1
            have K2 := nK2
            have K3 := nK3
            have KB := nB
            clear nK1 nK2 nK3 nB
            refine hK.out _ _ trivial (fun _ => ?_)
            clear hK K
            (try simp only [Act.put, List.setIfInBounds_toArray, List.set_cons_zero, List.set_cons_succ])
            refine wpAnyH_ready (rs := [10]) (by kernel_rfl) (by simp) ?_
            refine AllReadyH.cons rfl (fun K hK => ?_) AllReadyH.nil
            show (if Region.wanted ⟨some 67, .call _, _, _, _, some (6, true)⟩ _ = true then Oper.wp _ ⟨some 67, .call _, _, _, _, some (6, true)⟩ _ _ _ _ else _)
            go_simp
            refine (value_Of.of_calls R _ (v) hRl E3.out).mono ?_
            rintro e w7 ⟨rfl, hb⟩
            have nK1 := Aside0.mk (blk_below K1.out hb)
            have nK2 := Aside0.mk (blk_below K2.out hb)
            have nK3 := Aside0.mk (blk_below K3.out hb)
            have nB := Aside0.mk (below_step KB.out hb)
            clear K1 K2 K3 KB hb
            have K1 := nK1
            have K2 := nK2
            have K3 := nK3
            have KB := nB
            clear nK1 nK2 nK3 nB
            refine hK.out _ _ trivial (fun _ => ?_)
            clear hK K
            (try simp only [Act.put, List.setIfInBounds_toArray, List.set_cons_zero, List.set_cons_succ])
            refine wpAnyH_ready (rs := [11]) (by kernel_rfl) (by simp) ?_
            refine AllReadyH.cons rfl (fun K hK => ?_) AllReadyH.nil
            show (if Region.wanted ⟨some 68, .binOp .eql 3 (.tmp 65) (.tmp 67) 3, _, _, _, some (6, true)⟩ _ = true then Oper.wp _ ⟨some 68, .binOp .eql 3 (.tmp 65) (.tmp 67) 3, _, _, _, some (6, true)⟩ _ _ _ _ else _)
            go_simp
            refine hK.out _ _ trivial (fun _ => ?_)
            clear hK K
            (try simp only [Act.put, List.setIfInBounds_toArray, List.set_cons_zero, List.set_cons_succ])
            refine wpAnyH_ready (rs := [12]) (by kernel_rfl) (by simp) ?_
            refine AllReadyH.cons rfl (fun K hK => ?_) AllReadyH.nil
            show (if Region.wanted ⟨some 69, .pick (.tmp 63) (.tmp 68) (.const (.bool false)), _, _, _, none⟩ _ = true then Oper.wp _ ⟨some 69, .pick (.tmp 63) (.tmp 68) (.const (.bool false)), _, _, _, none⟩ _ _ _ _ else _)
            go_simp
            refine hK.out _ _ trivial (fun _ => ?_)
            clear hK K
            (try simp only [Act.put, List.setIfInBounds_toArray, List.set_cons_zero, List.set_cons_succ])
            refine wpAnyH_ready (rs := [13]) (by kernel_rfl) (by simp) ?_
            refine AllReadyH.cons rfl (fun K hK => ?_) AllReadyH.nil
            show (if Region.wanted ⟨some 2, .assign (.tmp 69), _, _, _, none⟩ _ = true then Oper.wp _ ⟨some 2, .assign (.tmp 69), _, _, _, none⟩ _ _ _ _ else _)
            go_simp
            refine hK.out _ _ trivial (fun _ => ?_)
            clear hK K
            (try simp only [Act.put, List.setIfInBounds_toArray, List.set_cons_zero, List.set_cons_succ])
            refine wpAnyH_done (by kernel_rfl) ?_ _
            go_wp2
            go_meet
            exact ⟨rfl, KB⟩
          refine AllReadyH.cons rfl (fun K hK => ?_) AllReadyH.nil
          show (if Region.wanted ⟨some 59, .load 33 (.tmp 1), _, _, _, none⟩ _ = true then Oper.wp _ ⟨some 59, .load 33 (.tmp 1), _, _, _, none⟩ _ _ _ _ else _)
          rw [if_pos (by rfl)]
          refine value_Of.wp_load 33 (.tmp 1) rfl rfl K1.out Try.underlying33 rfl value_Of.infoP (by omega) ?_
          rw [show (R.drop 0).take 98 = R by rw [List.drop_zero, List.take_of_length_le (by omega)]]
          refine hK.out _ _ trivial (fun _ => ?_)
          clear hK K
          (try simp only [Act.put, List.setIfInBounds_toArray, List.set_cons_zero, List.set_cons_succ])
          refine wpAnyH_ready (rs := [1]) (by kernel_rfl) (by simp) ?_
          refine AllReadyH.cons rfl (fun K hK => ?_) AllReadyH.nil
          show (if Region.wanted ⟨some 58, .call _, _, _, _, none⟩ _ = true then Oper.wp _ ⟨some 58, .call _, _, _, _, none⟩ _ _ _ _ else _)
          go_simp
          refine (value_Of.of_calls M _ (wrap64 (-v)) hml E4.out).mono ?_
          rintro e w7 ⟨rfl, hb⟩
          have nK1 := Aside0.mk (blk_below K1.out hb)
          have nK2 := Aside0.mk (blk_below K2.out hb)
          have nK3 := Aside0.mk (blk_below K3.out hb)
          have nB := Aside0.mk (below_step KB.out hb)
          clear K1 K2 K3 KB hb
          have K1 := nK1
          have K2 := nK2
          have K3 := nK3
          have KB := nB
          clear nK1 nK2 nK3 nB
          refine hK.out _ _ trivial (fun _ => ?_)
          clear hK K
          (try simp only [Act.put, List.setIfInBounds_toArray, List.set_cons_zero, List.set_cons_succ])
          refine wpAnyH_ready (rs := [3]) (by kernel_rfl) (by simp) ?_
          refine AllReadyH.cons rfl (fun K hK => ?_) AllReadyH.nil
          show (if Region.wanted ⟨some 60, .call _, _, _, _, none⟩ _ = true then Oper.wp _ ⟨some 60, .call _, _, _, _, none⟩ _ _ _ _ else _)
          go_simp
          refine (value_Of.of_calls R _ (v) hRl E3.out).mono ?_
          rintro e w7 ⟨rfl, hb⟩
          have nK1 := Aside0.mk (blk_below K1.out hb)
          have nK2 := Aside0.mk (blk_below K2.out hb)
          have nK3 := Aside0.mk (blk_below K3.out hb)
          have nB := Aside0.mk (below_step KB.out hb)
          clear K1 K2 K3 KB hb
          have K1 := nK1
          have K2 := nK2
          have K3 := nK3
          have KB := nB
          clear nK1 nK2 nK3 nB
          refine hK.out _ _ trivial (fun _ => ?_)
          clear hK K
          (try simp only [Act.put, List.setIfInBounds_toArray, List.set_cons_zero, List.set_cons_succ])
          refine wpAnyH_ready (rs := [4]) (by kernel_rfl) (by simp) ?_
          refine AllReadyH.cons rfl (fun K hK => ?_) AllReadyH.nil
          show (if Region.wanted ⟨some 61, .unOp .neg 3 (.tmp 60), _, _, _, none⟩ _ = true then Oper.wp _ ⟨some 61, .unOp .neg 3 (.tmp 60), _, _, _, none⟩ _ _ _ _ else _)
          go_simp
          refine hK.out _ _ trivial (fun _ => ?_)
          clear hK K
          (try simp only [Act.put, List.setIfInBounds_toArray, List.set_cons_zero, List.set_cons_succ])
          refine wpAnyH_ready (rs := [5]) (by kernel_rfl) (by simp) ?_
          refine AllReadyH.cons rfl (fun K hK => ?_) AllReadyH.nil
          show (if Region.wanted ⟨some 62, .binOp .eql 3 (.tmp 58) (.tmp 61) 3, _, _, _, none⟩ _ = true then Oper.wp _ ⟨some 62, .binOp .eql 3 (.tmp 58) (.tmp 61) 3, _, _, _, none⟩ _ _ _ _ else _)
          go_simp
          rw [HQ.out]
          refine hK.out _ _ trivial (fun _ => ?_)
          clear hK K
          (try simp only [Act.put, List.setIfInBounds_toArray, List.set_cons_zero, List.set_cons_succ])
          refine wpAnyH_ready (rs := [6]) (by kernel_rfl) (by simp) ?_
          refine AllReadyH.cons rfl (fun K hK => ?_) AllReadyH.nil
          show (if Region.wanted ⟨some 63, .move (.tmp 62), _, _, _, none⟩ _ = true then Oper.wp _ ⟨some 63, .move (.tmp 62), _, _, _, none⟩ _ _ _ _ else _)
          go_simp
          refine hK.out _ _ trivial (fun _ => ?_)
          clear hK K
          (try simp only [Act.put, List.setIfInBounds_toArray, List.set_cons_zero, List.set_cons_succ])
          refine wpAnyH_ready (rs := [7, 9]) (by kernel_rfl) (by simp) ?_
          refine AllReadyH.cons rfl (fun K hK => ?_) ?_
          · show (if Region.wanted ⟨some 64, .load 33 (.tmp 4), _, _, _, some (6, true)⟩ _ = true then Oper.wp _ ⟨some 64, .load 33 (.tmp 4), _, _, _, some (6, true)⟩ _ _ _ _ else _)
            rw [if_pos (by rfl)]
            refine value_Of.wp_load 33 (.tmp 4) rfl rfl K3.out Try.underlying33 rfl value_Of.infoP (by omega) ?_
            rw [show (l.drop 0).take 98 = l by rw [List.drop_zero, List.take_of_length_le (by omega)]]
            refine hK.out _ _ trivial (fun _ => ?_)
            clear hK K
            (try simp only [Act.put, List.setIfInBounds_toArray, List.set_cons_zero, List.set_cons_succ])
            refine wpAnyH_ready (rs := [8, 9]) (by kernel_rfl) (by simp) ?_
            refine AllReadyH.cons rfl (fun K hK => ?_) ?_
            · show (if Region.wanted ⟨some 65, .call _, _, _, _, some (6, true)⟩ _ = true then Oper.wp _ ⟨some 65, .call _, _, _, _, some (6, true)⟩ _ _ _ _ else _)
              go_simp
              refine (value_Of.of_calls l _ (v) e2 E5.out).mono ?_
              rintro e w7 ⟨rfl, hb⟩
              have nK1 := Aside0.mk (blk_below K1.out hb)
              have nK2 := Aside0.mk (blk_below K2.out hb)
              have nK3 := Aside0.mk (blk_below K3.out hb)
              have nB := Aside0.mk (below_step KB.out hb)
              clear K1 K2 K3 KB hb
              have K1 := nK1
              have K2 := nK2
              have K3 := nK3
              have KB := nB
              clear nK1 nK2 nK3 nB
              refine hK.out _ _ trivial (fun _ => ?_)
              clear hK K
              (try simp only [Act.put, List.setIfInBounds_toArray, List.set_cons_zero, List.set_cons_succ])
              refine wpAnyH_ready (rs := [9]) (by kernel_rfl) (by simp) ?_
              refine AllReadyH.cons rfl (fun K hK => ?_) AllReadyH.nil
              show (if Region.wanted ⟨some 66, .load 33 (.tmp 1), _, _, _, some (6, true)⟩ _ = true then Oper.wp _ ⟨some 66, .load 33 (.tmp 1), _, _, _, some (6, true)⟩ _ _ _ _ else _)
              rw [if_pos (by rfl)]
              refine value_Of.wp_load 33 (.tmp 1) rfl rfl K1.out Try.underlying33 rfl value_Of.infoP (by omega) ?_
              rw [show (R.drop 0).take 98 = R by rw [List.drop_zero, List.take_of_length_le (by omega)]]
              refine hK.out _ _ trivial (fun _ => ?_)
              clear hK K
              (try simp only [Act.put, List.setIfInBounds_toArray, List.set_cons_zero, List.set_cons_succ])
              refine wpAnyH_ready (rs := [10]) (by kernel_rfl) (by simp) ?_
              refine AllReadyH.cons rfl (fun K hK => ?_) AllReadyH.nil
              show (if Region.wanted ⟨some 67, .call _, _, _, _, some (6, true)⟩ _ = true then Oper.wp _ ⟨some 67, .call _, _, _, _, some (6, true)⟩ _ _ _ _ else _)
              go_simp
              refine (value_Of.of_calls R _ (v) hRl E3.out).mono ?_
              rintro e w7 ⟨rfl, hb⟩
              have nK1 := Aside0.mk (blk_below K1.out hb)
              have nK2 := Aside0.mk (blk_below K2.out hb)
              have nK3 := Aside0.mk (blk_below K3.out hb)
              have nB := Aside0.mk (below_step KB.out hb)
              clear K1 K2 K3 KB hb
              have K1 := nK1
              have K2 := nK2
              have K3 := nK3
              have KB := nB
              clear nK1 nK2 nK3 nB
              refine hK.out _ _ trivial (fun _ => ?_)
              clear hK K
              (try simp only [Act.put, List.setIfInBounds_toArray, List.set_cons_zero, List.set_cons_succ])
              refine wpAnyH_ready (rs := [11]) (by kernel_rfl) (by simp) ?_
              refine AllReadyH.cons rfl (fun K hK => ?_) AllReadyH.nil
              show (if Region.wanted ⟨some 68, .binOp .eql 3 (.tmp 65) (.tmp 67) 3, _, _, _, some (6, true)⟩ _ = true then Oper.wp _ ⟨some 68, .binOp .eql 3 (.tmp 65) (.tmp 67) 3, _, _, _, some (6, true)⟩ _ _ _ _ else _)
              go_simp
              refine hK.out _ _ trivial (fun _ => ?_)
              clear hK K
              (try simp only [Act.put, List.setIfInBounds_toArray, List.set_cons_zero, List.set_cons_succ])
              refine wpAnyH_ready (rs := [12]) (by kernel_rfl) (by simp) ?_
              refine AllReadyH.cons rfl (fun K hK => ?_) AllReadyH.nil
              show (if Region.wanted ⟨some 69, .pick (.tmp 63) (.tmp 68) (.const (.bool false)), _, _, _, none⟩ _ = true then Oper.wp _ ⟨some 69, .pick (.tmp 63) (.tmp 68) (.const (.bool false)), _, _, _, none⟩ _ _ _ _ else _)
              go_simp
              refine hK.out _ _ trivial (fun _ => ?_)
              clear hK K
              (try simp only [Act.put, List.setIfInBounds_toArray, List.set_cons_zero, List.set_cons_succ])
              refine wpAnyH_ready (rs := [13]) (by kernel_rfl) (by simp) ?_
              refine AllReadyH.cons rfl (fun K hK => ?_) AllReadyH.nil
              show (if Region.wanted ⟨some 2, .assign (.tmp 69), _, _, _, none⟩ _ = true then Oper.wp _ ⟨some 2, .assign (.tmp 69), _, _, _, none⟩ _ _ _ _ else _)
              go_simp
              refine hK.out _ _ trivial (fun _ => ?_)
              clear hK K
              (try simp only [Act.put, List.setIfInBounds_toArray, List.set_cons_zero, List.set_cons_succ])
              refine wpAnyH_done (by kernel_rfl) ?_ _
              go_wp2
              go_meet
              exact ⟨rfl, KB⟩
            refine AllReadyH.cons rfl (fun K hK => ?_) AllReadyH.nil
            show (if Region.wanted ⟨some 66, .load 33 (.tmp 1), _, _, _, some (6, true)⟩ _ = true then Oper.wp _ ⟨some 66, .load 33 (.tmp 1), _, _, _, some (6, true)⟩ _ _ _ _ else _)
            rw [if_pos (by rfl)]
            refine value_Of.wp_load 33 (.tmp 1) rfl rfl K1.out Try.underlying33 rfl value_Of.infoP (by omega) ?_
            rw [show (R.drop 0).take 98 = R by rw [List.drop_zero, List.take_of_length_le (by omega)]]
            refine hK.out _ _ trivial (fun _ => ?_)
            clear hK K
            (try simp only [Act.put, List.setIfInBounds_toArray, List.set_cons_zero, List.set_cons_succ])
            refine wpAnyH_ready (rs := [8]) (by kernel_rfl) (by simp) ?_
            refine AllReadyH.cons rfl (fun K hK => ?_) AllReadyH.nil
            show (if Region.wanted ⟨some 65, .call _, _, _, _, some (6, true)⟩ _ = true then Oper.wp _ ⟨some 65, .call _, _, _, _, some (6, true)⟩ _ _ _ _ else _)
            go_simp
            refine (value_Of.of_calls l _ (v) e2 E5.out).mono ?_
            rintro e w7 ⟨rfl, hb⟩
            have nK1 := Aside0.mk (blk_below K1.out hb)
            have nK2 := Aside0.mk (blk_below K2.out hb)
            have nK3 := Aside0.mk (blk_below K3.out hb)
            have nB := Aside0.mk (below_step KB.out hb)
            clear K1 K2 K3 KB hb
            have K1 := nK1
            have K2 := nK2
            have K3 := nK3
            have KB := nB
            clear nK1 nK2 nK3 nB
            refine hK.out _ _ trivial (fun _ => ?_)
            clear hK K
            (try simp only [Act.put, List.setIfInBounds_toArray, List.set_cons_zero, List.set_cons_succ])
            refine wpAnyH_ready (rs := [10]) (by kernel_rfl) (by simp) ?_
            refine AllReadyH.cons rfl (fun K hK => ?_) AllReadyH.nil
            show (if Region.wanted ⟨some 67, .call _, _, _, _, some (6, true)⟩ _ = true then Oper.wp _ ⟨some 67, .call _, _, _, _, some (6, true)⟩ _ _ _ _ else _)
            go_simp
            refine (value_Of.of_calls R _ (v) hRl E3.out).mono ?_
            rintro e w7 ⟨rfl, hb⟩
            have nK1 := Aside0.mk (blk_below K1.out hb)
            have nK2 := Aside0.mk (blk_below K2.out hb)
            have nK3 := Aside0.mk (blk_below K3.out hb)
            have nB := Aside0.mk (below_step KB.out hb)
            clear K1 K2 K3 KB hb
            have K1 := nK1
            have K2 := nK2
            have K3 := nK3
            have KB := nB
            clear nK1 nK2 nK3 nB
            refine hK.out _ _ trivial (fun _ => ?_)
            clear hK K
            (try simp only [Act.put, List.setIfInBounds_toArray, List.set_cons_zero, List.set_cons_succ])
            refine wpAnyH_ready (rs := [11]) (by kernel_rfl) (by simp) ?_
            refine AllReadyH.cons rfl (fun K hK => ?_) AllReadyH.nil
            show (if Region.wanted ⟨some 68, .binOp .eql 3 (.tmp 65) (.tmp 67) 3, _, _, _, some (6, true)⟩ _ = true then Oper.wp _ ⟨some 68, .binOp .eql 3 (.tmp 65) (.tmp 67) 3, _, _, _, some (6, true)⟩ _ _ _ _ else _)
            go_simp
            refine hK.out _ _ trivial (fun _ => ?_)
            clear hK K
            (try simp only [Act.put, List.setIfInBounds_toArray, List.set_cons_zero, List.set_cons_succ])
            refine wpAnyH_ready (rs := [12]) (by kernel_rfl) (by simp) ?_
            refine AllReadyH.cons rfl (fun K hK => ?_) AllReadyH.nil
            show (if Region.wanted ⟨some 69, .pick (.tmp 63) (.tmp 68) (.const (.bool false)), _, _, _, none⟩ _ = true then Oper.wp _ ⟨some 69, .pick (.tmp 63) (.tmp 68) (.const (.bool false)), _, _, _, none⟩ _ _ _ _ else _)
            go_simp
            refine hK.out _ _ trivial (fun _ => ?_)
            clear hK K
            (try simp only [Act.put, List.setIfInBounds_toArray, List.set_cons_zero, List.set_cons_succ])
            refine wpAnyH_ready (rs := [13]) (by kernel_rfl) (by simp) ?_
            refine AllReadyH.cons rfl (fun K hK => ?_) AllReadyH.nil
            show (if Region.wanted ⟨some 2, .assign (.tmp 69), _, _, _, none⟩ _ = true then Oper.wp _ ⟨some 2, .assign (.tmp 69), _, _, _, none⟩ _ _ _ _ else _)
            go_simp
            refine hK.out _ _ trivial (fun _ => ?_)
            clear hK K
            (try simp only [Act.put, List.setIfInBounds_toArray, List.set_cons_zero, List.set_cons_succ])
            refine wpAnyH_done (by kernel_rfl) ?_ _
            go_wp2
            go_meet
            exact ⟨rfl, KB⟩
          refine AllReadyH.cons rfl (fun K hK => ?_) AllReadyH.nil
          show (if Region.wanted ⟨some 66, .load 33 (.tmp 1), _, _, _, some (6, true)⟩ _ = true then Oper.wp _ ⟨some 66, .load 33 (.tmp 1), _, _, _, some (6, true)⟩ _ _ _ _ else _)
          rw [if_pos (by rfl)]
          refine value_Of.wp_load 33 (.tmp 1) rfl rfl K1.out Try.underlying33 rfl value_Of.infoP (by omega) ?_
          rw [show (R.drop 0).take 98 = R by rw [List.drop_zero, List.take_of_length_le (by omega)]]
          refine hK.out _ _ trivial (fun _ => ?_)
          clear hK K
          (try simp only [Act.put, List.setIfInBounds_toArray, List.set_cons_zero, List.set_cons_succ])
          refine wpAnyH_ready (rs := [7]) (by kernel_rfl) (by simp) ?_
          refine AllReadyH.cons rfl (fun K hK => ?_) AllReadyH.nil
          show (if Region.wanted ⟨some 64, .load 33 (.tmp 4), _, _, _, some (6, true)⟩ _ = true then Oper.wp _ ⟨some 64, .load 33 (.tmp 4), _, _, _, some (6, true)⟩ _ _ _ _ else _)
          rw [if_pos (by rfl)]
          refine value_Of.wp_load 33 (.tmp 4) rfl rfl K3.out Try.underlying33 rfl value_Of.infoP (by omega) ?_
          rw [show (l.drop 0).take 98 = l by rw [List.drop_zero, List.take_of_length_le (by omega)]]
          refine hK.out _ _ trivial (fun _ => ?_)
          clear hK K
          (try simp only [Act.put, List.setIfInBounds_toArray, List.set_cons_zero, List.set_cons_succ])
          refine wpAnyH_ready (rs := [8]) (by kernel_rfl) (by simp) ?_
          refine AllReadyH.cons rfl (fun K hK => ?_) AllReadyH.nil
          show (if Region.wanted ⟨some 65, .call _, _, _, _, some (6, true)⟩ _ = true then Oper.wp _ ⟨some 65, .call _, _, _, _, some (6, true)⟩ _ _ _ _ else _)
          go_simp
          refine (value_Of.of_calls l _ (v) e2 E5.out).mono ?_
          rintro e w7 ⟨rfl, hb⟩
          have nK1 := Aside0.mk (blk_below K1.out hb)
          have nK2 := Aside0.mk (blk_below K2.out hb)
          have nK3 := Aside0.mk (blk_below K3.out hb)
          have nB := Aside0.mk (below_step KB.out hb)
          clear K1 K2 K3 KB hb
          have K1 := nK1
          have K2 := nK2
          have K3 := nK3
          have KB := nB
          clear nK1 nK2 nK3 nB
          refine hK.out _ _ trivial (fun _ => ?_)
          clear hK K
          (try simp only [Act.put, List.setIfInBounds_toArray, List.set_cons_zero, List.set_cons_succ])
          refine wpAnyH_ready (rs := [10]) (by kernel_rfl) (by simp) ?_
          refine AllReadyH.cons rfl (fun K hK => ?_) AllReadyH.nil
          show (if Region.wanted ⟨some 67, .call _, _, _, _, some (6, true)⟩ _ = true then Oper.wp _ ⟨some 67, .call _, _, _, _, some (6, true)⟩ _ _ _ _ else _)
          go_simp
          refine (value_Of.of_calls R _ (v) hRl E3.out).mono ?_
          rintro e w7 ⟨rfl, hb⟩
          have nK1 := Aside0.mk (blk_below K1.out hb)
          have nK2 := Aside0.mk (blk_below K2.out hb)
          have nK3 := Aside0.mk (blk_below K3.out hb)
          have nB := Aside0.mk (below_step KB.out hb)
          clear K1 K2 K3 KB hb
          have K1 := nK1
          have K2 := nK2
          have K3 := nK3
          have KB := nB
          clear nK1 nK2 nK3 nB
          refine hK.out _ _ trivial (fun _ => ?_)
          clear hK K
          (try simp only [Act.put, List.setIfInBounds_toArray, List.set_cons_zero, List.set_cons_succ])
          refine wpAnyH_ready (rs := [11]) (by kernel_rfl) (by simp) ?_
          refine AllReadyH.cons rfl (fun K hK => ?_) AllReadyH.nil
          show (if Region.wanted ⟨some 68, .binOp .eql 3 (.tmp 65) (.tmp 67) 3, _, _, _, some (6, true)⟩ _ = true then Oper.wp _ ⟨some 68, .binOp .eql 3 (.tmp 65) (.tmp 67) 3, _, _, _, some (6, true)⟩ _ _ _ _ else _)
          go_simp
          refine hK.out _ _ trivial (fun _ => ?_)
          clear hK K
          (try simp only [Act.put, List.setIfInBounds_toArray, List.set_cons_zero, List.set_cons_succ])
          refine wpAnyH_ready (rs := [12]) (by kernel_rfl) (by simp) ?_
          refine AllReadyH.cons rfl (fun K hK => ?_) AllReadyH.nil
          show (if Region.wanted ⟨some 69, .pick (.tmp 63) (.tmp 68) (.const (.bool false)), _, _, _, none⟩ _ = true then Oper.wp _ ⟨some 69, .pick (.tmp 63) (.tmp 68) (.const (.bool false)), _, _, _, none⟩ _ _ _ _ else _)
          go_simp
          refine hK.out _ _ trivial (fun _ => ?_)
          clear hK K
          (try simp only [Act.put, List.setIfInBounds_toArray, List.set_cons_zero, List.set_cons_succ])
          refine wpAnyH_ready (rs := [13]) (by kernel_rfl) (by simp) ?_
          refine AllReadyH.cons rfl (fun K hK => ?_) AllReadyH.nil
          show (if Region.wanted ⟨some 2, .assign (.tmp 69), _, _, _, none⟩ _ = true then Oper.wp _ ⟨some 2, .assign (.tmp 69), _, _, _, none⟩ _ _ _ _ else _)
          go_simp
          refine hK.out _ _ trivial (fun _ => ?_)
          clear hK K
          (try simp only [Act.put, List.setIfInBounds_toArray, List.set_cons_zero, List.set_cons_succ])
          refine wpAnyH_done (by kernel_rfl) ?_ _
          go_wp2
          go_meet
          exact ⟨rfl, KB⟩
        refine AllReadyH.cons rfl (fun K hK => ?_) AllReadyH.nil
        show (if Region.wanted ⟨some 59, .load 33 (.tmp 1), _, _, _, none⟩ _ = true then Oper.wp _ ⟨some 59, .load 33 (.tmp 1), _, _, _, none⟩ _ _ _ _ else _)
        rw [if_pos (by rfl)]
        refine value_Of.wp_load 33 (.tmp 1) rfl rfl K1.out Try.underlying33 rfl value_Of.infoP (by omega) ?_
        rw [show (R.drop 0).take 98 = R by rw [List.drop_zero, List.take_of_length_le (by omega)]]
        refine hK.out _ _ trivial (fun _ => ?_)
        clear hK K
        (try simp only [Act.put, List.setIfInBounds_toArray, List.set_cons_zero, List.set_cons_succ])
        refine wpAnyH_ready (rs := [0]) (by kernel_rfl) (by simp) ?_
        refine AllReadyH.cons rfl (fun K hK => ?_) AllReadyH.nil
        show (if Region.wanted ⟨some 57, .load 33 (.tmp 3), _, _, _, none⟩ _ = true then Oper.wp _ ⟨some 57, .load 33 (.tmp 3), _, _, _, none⟩ _ _ _ _ else _)
        rw [if_pos (by rfl)]
        refine value_Of.wp_load 33 (.tmp 3) rfl rfl K2.out Try.underlying33 rfl value_Of.infoP (by omega) ?_
        rw [show (M.drop 0).take 98 = M by rw [List.drop_zero, List.take_of_length_le (by omega)]]
        refine hK.out _ _ trivial (fun _ => ?_)
        clear hK K
        (try simp only [Act.put, List.setIfInBounds_toArray, List.set_cons_zero, List.set_cons_succ])
        refine wpAnyH_ready (rs := [1]) (by kernel_rfl) (by simp) ?_
        refine AllReadyH.cons rfl (fun K hK => ?_) AllReadyH.nil
        show (if Region.wanted ⟨some 58, .call _, _, _, _, none⟩ _ = true then Oper.wp _ ⟨some 58, .call _, _, _, _, none⟩ _ _ _ _ else _)
        go_simp
        refine (value_Of.of_calls M _ (wrap64 (-v)) hml E4.out).mono ?_
        rintro e w7 ⟨rfl, hb⟩
        have nK1 := Aside0.mk (blk_below K1.out hb)
        have nK2 := Aside0.mk (blk_below K2.out hb)
        have nK3 := Aside0.mk (blk_below K3.out hb)
        have nB := Aside0.mk (below_step KB.out hb)
        clear K1 K2 K3 KB hb
        have K1 := nK1
        have K2 := nK2
        have K3 := nK3
        have KB := nB
        clear nK1 nK2 nK3 nB
        refine hK.out _ _ trivial (fun _ => ?_)
        clear hK K
        (try simp only [Act.put, List.setIfInBounds_toArray, List.set_cons_zero, List.set_cons_succ])
        refine wpAnyH_ready (rs := [3]) (by kernel_rfl) (by simp) ?_
        refine AllReadyH.cons rfl (fun K hK => ?_) AllReadyH.nil
        show (if Region.wanted ⟨some 60, .call _, _, _, _, none⟩ _ = true then Oper.wp _ ⟨some 60, .call _, _, _, _, none⟩ _ _ _ _ else _)
        go_simp
        refine (value_Of.of_calls R _ (v) hRl E3.out).mono ?_
        rintro e w7 ⟨rfl, hb⟩
        have nK1 := Aside0.mk (blk_below K1.out hb)
        have nK2 := Aside0.mk (blk_below K2.out hb)
        have nK3 := Aside0.mk (blk_below K3.out hb)
        have nB := Aside0.mk (below_step KB.out hb)
        clear K1 K2 K3 KB hb
        have K1 := nK1
        have K2 := nK2
        have K3 := nK3
        have KB := nB
        clear nK1 nK2 nK3 nB
        refine hK.out _ _ trivial (fun _ => ?_)
        clear hK K
        (try simp only [Act.put, List.setIfInBounds_toArray, List.set_cons_zero, List.set_cons_succ])
        refine wpAnyH_ready (rs := [4]) (by kernel_rfl) (by simp) ?_
        refine AllReadyH.cons rfl (fun K hK => ?_) AllReadyH.nil
        show (if Region.wanted ⟨some 61, .unOp .neg 3 (.tmp 60), _, _, _, none⟩ _ = true then Oper.wp _ ⟨some 61, .unOp .neg 3 (.tmp 60), _, _, _, none⟩ _ _ _ _ else _)
        go_simp
        refine hK.out _ _ trivial (fun _ => ?_)
        clear hK K
        (try simp only [Act.put, List.setIfInBounds_toArray, List.set_cons_zero, List.set_cons_succ])
        refine wpAnyH_ready (rs := [5]) (by kernel_rfl) (by simp) ?_
        refine AllReadyH.cons rfl (fun K hK => ?_) AllReadyH.nil
        show (if Region.wanted ⟨some 62, .binOp .eql 3 (.tmp 58) (.tmp 61) 3, _, _, _, none⟩ _ = true then Oper.wp _ ⟨some 62, .binOp .eql 3 (.tmp 58) (.tmp 61) 3, _, _, _, none⟩ _ _ _ _ else _)
        go_simp
        rw [HQ.out]
        refine hK.out _ _ trivial (fun _ => ?_)
        clear hK K
        (try simp only [Act.put, List.setIfInBounds_toArray, List.set_cons_zero, List.set_cons_succ])
        refine wpAnyH_ready (rs := [6]) (by kernel_rfl) (by simp) ?_
        refine AllReadyH.cons rfl (fun K hK => ?_) AllReadyH.nil
        show (if Region.wanted ⟨some 63, .move (.tmp 62), _, _, _, none⟩ _ = true then Oper.wp _ ⟨some 63, .move (.tmp 62), _, _, _, none⟩ _ _ _ _ else _)
        go_simp
        refine hK.out _ _ trivial (fun _ => ?_)
        clear hK K
        (try simp only [Act.put, List.setIfInBounds_toArray, List.set_cons_zero, List.set_cons_succ])
        refine wpAnyH_ready (rs := [7, 9]) (by kernel_rfl) (by simp) ?_
        refine AllReadyH.cons rfl (fun K hK => ?_) ?_
        · show (if Region.wanted ⟨some 64, .load 33 (.tmp 4), _, _, _, some (6, true)⟩ _ = true then Oper.wp _ ⟨some 64, .load 33 (.tmp 4), _, _, _, some (6, true)⟩ _ _ _ _ else _)
          rw [if_pos (by rfl)]
          refine value_Of.wp_load 33 (.tmp 4) rfl rfl K3.out Try.underlying33 rfl value_Of.infoP (by omega) ?_
          rw [show (l.drop 0).take 98 = l by rw [List.drop_zero, List.take_of_length_le (by omega)]]
          refine hK.out _ _ trivial (fun _ => ?_)
          clear hK K
          (try simp only [Act.put, List.setIfInBounds_toArray, List.set_cons_zero, List.set_cons_succ])
          refine wpAnyH_ready (rs := [8, 9]) (by kernel_rfl) (by simp) ?_
          refine AllReadyH.cons rfl (fun K hK => ?_) ?_
          · show (if Region.wanted ⟨some 65, .call _, _, _, _, some (6, true)⟩ _ = true then Oper.wp _ ⟨some 65, .call _, _, _, _, some (6, true)⟩ _ _ _ _ else _)
            go_simp
            refine (value_Of.of_calls l _ (v) e2 E5.out).mono ?_
            rintro e w7 ⟨rfl, hb⟩
            have nK1 := Aside0.mk (blk_below K1.out hb)
            have nK2 := Aside0.mk (blk_below K2.out hb)
            have nK3 := Aside0.mk (blk_below K3.out hb)
            have nB := Aside0.mk (below_step KB.out hb)
            clear K1 K2 K3 KB hb
            have K1 := nK1
            have K2 := nK2
            have K3 := nK3
            have KB := nB
            clear nK1 nK2 nK3 nB
            refine hK.out _ _ trivial (fun _ => ?_)
            clear hK K
            (try simp only [Act.put, List.setIfInBounds_toArray, List.set_cons_zero, List.set_cons_succ])
            refine wpAnyH_ready (rs := [9]) (by kernel_rfl) (by simp) ?_
            refine AllReadyH.cons rfl (fun K hK => ?_) AllReadyH.nil
            show (if Region.wanted ⟨some 66, .load 33 (.tmp 1), _, _, _, some (6, true)⟩ _ = true then Oper.wp _ ⟨some 66, .load 33 (.tmp 1), _, _, _, some (6, true)⟩ _ _ _ _ else _)
            rw [if_pos (by rfl)]
            refine value_Of.wp_load 33 (.tmp 1) rfl rfl K1.out Try.underlying33 rfl value_Of.infoP (by omega) ?_
            rw [show (R.drop 0).take 98 = R by rw [List.drop_zero, List.take_of_length_le (by omega)]]
            refine hK.out _ _ trivial (fun _ => ?_)
            clear hK K
            (try simp only [Act.put, List.setIfInBounds_toArray, List.set_cons_zero, List.set_cons_succ])
            refine wpAnyH_ready (rs := [10]) (by kernel_rfl) (by simp) ?_
            refine AllReadyH.cons rfl (fun K hK => ?_) AllReadyH.nil
            show (if Region.wanted ⟨some 67, .call _, _, _, _, some (6, true)⟩ _ = true then Oper.wp _ ⟨some 67, .call _, _, _, _, some (6, true)⟩ _ _ _ _ else _)
            go_simp
            refine (value_Of.of_calls R _ (v) hRl E3.out).mono ?_
            rintro e w7 ⟨rfl, hb⟩
            have nK1 := Aside0.mk (blk_below K1.out hb)
            have nK2 := Aside0.mk (blk_below K2.out hb)
            have nK3 := Aside0.mk (blk_below K3.out hb)
            have nB := Aside0.mk (below_step KB.out hb)
            clear K1 K2 K3 KB hb
            have K1 := nK1
            have K2 := nK2
            have K3 := nK3
            have KB := nB
            clear nK1 nK2 nK3 nB
            refine hK.out _ _ trivial (fun _ => ?_)
            clear hK K
            (try simp only [Act.put, List.setIfInBounds_toArray, List.set_cons_zero, List.set_cons_succ])
            refine wpAnyH_ready (rs := [11]) (by kernel_rfl) (by simp) ?_
            refine AllReadyH.cons rfl (fun K hK => ?_) AllReadyH.nil
            show (if Region.wanted ⟨some 68, .binOp .eql 3 (.tmp 65) (.tmp 67) 3, _, _, _, some (6, true)⟩ _ = true then Oper.wp _ ⟨some 68, .binOp .eql 3 (.tmp 65) (.tmp 67) 3, _, _, _, some (6, true)⟩ _ _ _ _ else _)
            go_simp
            refine hK.out _ _ trivial (fun _ => ?_)
            clear hK K
            (try simp only [Act.put, List.setIfInBounds_toArray, List.set_cons_zero, List.set_cons_succ])
            refine wpAnyH_ready (rs := [12]) (by kernel_rfl) (by simp) ?_
            refine AllReadyH.cons rfl (fun K hK => ?_) AllReadyH.nil
            show (if Region.wanted ⟨some 69, .pick (.tmp 63) (.tmp 68) (.const (.bool false)), _, _, _, none⟩ _ = true then Oper.wp _ ⟨some 69, .pick (.tmp 63) (.tmp 68) (.const (.bool false)), _, _, _, none⟩ _ _ _ _ else _)
            go_simp
            refine hK.out _ _ trivial (fun _ => ?_)
            clear hK K
            (try simp only [Act.put, List.setIfInBounds_toArray, List.set_cons_zero, List.set_cons_succ])
            refine wpAnyH_ready (rs := [13]) (by kernel_rfl) (by simp) ?_
            refine AllReadyH.cons rfl (fun K hK => ?_) AllReadyH.nil
            show (if Region.wanted ⟨some 2, .assign (.tmp 69), _, _, _, none⟩ _ = true then Oper.wp _ ⟨some 2, .assign (.tmp 69), _, _, _, none⟩ _ _ _ _ else _)
            go_simp
            refine hK.out _ _ trivial (fun _ => ?_)
            clear hK K
            (try simp only [Act.put, List.setIfInBounds_toArray, List.set_cons_zero, List.set_cons_succ])
            refine wpAnyH_done (by kernel_rfl) ?_ _
            go_wp2
            go_meet
            exact ⟨rfl, KB⟩
          refine AllReadyH.cons rfl (fun K hK => ?_) AllReadyH.nil
          show (if Region.wanted ⟨some 66, .load 33 (.tmp 1), _, _, _, some (6, true)⟩ _ = true then Oper.wp _ ⟨some 66, .load 33 (.tmp 1), _, _, _, some (6, true)⟩ _ _ _ _ else _)
          rw [if_pos (by rfl)]
          refine value_Of.wp_load 33 (.tmp 1) rfl rfl K1.out Try.underlying33 rfl value_Of.infoP (by omega) ?_
          rw [show (R.drop 0).take 98 = R by rw [List.drop_zero, List.take_of_length_le (by omega)]]
          refine hK.out _ _ trivial (fun _ => ?_)
          clear hK K
          (try simp only [Act.put, List.setIfInBounds_toArray, List.set_cons_zero, List.set_cons_succ])
          refine wpAnyH_ready (rs := [8]) (by kernel_rfl) (by simp) ?_
          refine AllReadyH.cons rfl (fun K hK => ?_) AllReadyH.nil
          show (if Region.wanted ⟨some 65, .call _, _, _, _, some (6, true)⟩ _ = true then Oper.wp _ ⟨some 65, .call _, _, _, _, some (6, true)⟩ _ _ _ _ else _)
          go_simp
          refine (value_Of.of_calls l _ (v) e2 E5.out).mono ?_
          rintro e w7 ⟨rfl, hb⟩
          have nK1 := Aside0.mk (blk_below K1.out hb)
          have nK2 := Aside0.mk (blk_below K2.out hb)
          have nK3 := Aside0.mk (blk_below K3.out hb)
          have nB := Aside0.mk (below_step KB.out hb)
          clear K1 K2 K3 KB hb
          have K1 := nK1
          have K2 := nK2
          have K3 := nK3
          have KB := nB
          clear nK1 nK2 nK3 nB
          refine hK.out _ _ trivial (fun _ => ?_)
          clear hK K
          (try simp only [Act.put, List.setIfInBounds_toArray, List.set_cons_zero, List.set_cons_succ])
          refine wpAnyH_ready (rs := [10]) (by kernel_rfl) (by simp) ?_
          refine AllReadyH.cons rfl (fun K hK => ?_) AllReadyH.nil
          show (if Region.wanted ⟨some 67, .call _, _, _, _, some (6, true)⟩ _ = true then Oper.wp _ ⟨some 67, .call _, _, _, _, some (6, true)⟩ _ _ _ _ else _)
          go_simp
          refine (value_Of.of_calls R _ (v) hRl E3.out).mono ?_
          rintro e w7 ⟨rfl, hb⟩
          have nK1 := Aside0.mk (blk_below K1.out hb)
          have nK2 := Aside0.mk (blk_below K2.out hb)
          have nK3 := Aside0.mk (blk_below K3.out hb)
          have nB := Aside0.mk (below_step KB.out hb)
          clear K1 K2 K3 KB hb
          have K1 := nK1
          have K2 := nK2
          have K3 := nK3
          have KB := nB
          clear nK1 nK2 nK3 nB
          refine hK.out _ _ trivial (fun _ => ?_)
          clear hK K
          (try simp only [Act.put, List.setIfInBounds_toArray, List.set_cons_zero, List.set_cons_succ])
          refine wpAnyH_ready (rs := [11]) (by kernel_rfl) (by simp) ?_
          refine AllReadyH.cons rfl (fun K hK => ?_) AllReadyH.nil
          show (if Region.wanted ⟨some 68, .binOp .eql 3 (.tmp 65) (.tmp 67) 3, _, _, _, some (6, true)⟩ _ = true then Oper.wp _ ⟨some 68, .binOp .eql 3 (.tmp 65) (.tmp 67) 3, _, _, _, some (6, true)⟩ _ _ _ _ else _)
          go_simp
          refine hK.out _ _ trivial (fun _ => ?_)
          clear hK K
          (try simp only [Act.put, List.setIfInBounds_toArray, List.set_cons_zero, List.set_cons_succ])
          refine wpAnyH_ready (rs := [12]) (by kernel_rfl) (by simp) ?_
          refine AllReadyH.cons rfl (fun K hK => ?_) AllReadyH.nil
          show (if Region.wanted ⟨some 69, .pick (.tmp 63) (.tmp 68) (.const (.bool false)), _, _, _, none⟩ _ = true then Oper.wp _ ⟨some 69, .pick (.tmp 63) (.tmp 68) (.const (.bool false)), _, _, _, none⟩ _ _ _ _ else _)
          go_simp
          refine hK.out _ _ trivial (fun _ => ?_)
          clear hK K
          (try simp only [Act.put, List.setIfInBounds_toArray, List.set_cons_zero, List.set_cons_succ])
          refine wpAnyH_ready (rs := [13]) (by kernel_rfl) (by simp) ?_
          refine AllReadyH.cons rfl (fun K hK => ?_) AllReadyH.nil
          show (if Region.wanted ⟨some 2, .assign (.tmp 69), _, _, _, none⟩ _ = true then Oper.wp _ ⟨some 2, .assign (.tmp 69), _, _, _, none⟩ _ _ _ _ else _)
          go_simp
          refine hK.out _ _ trivial (fun _ => ?_)
          clear hK K
          (try simp only [Act.put, List.setIfInBounds_toArray, List.set_cons_zero, List.set_cons_succ])
          refine wpAnyH_done (by kernel_rfl) ?_ _
          go_wp2
          go_meet
          exact ⟨rfl, KB⟩
        refine AllReadyH.cons rfl (fun K hK => ?_) AllReadyH.nil
        show (if Region.wanted ⟨some 66, .load 33 (.tmp 1), _, _, _, some (6, true)⟩ _ = true then Oper.wp _ ⟨some 66, .load 33 (.tmp 1), _, _, _, some (6, true)⟩ _ _ _ _ else _)
        rw [if_pos (by rfl)]
        refine value_Of.wp_load 33 (.tmp 1) rfl rfl K1.out Try.underlying33 rfl value_Of.infoP (by omega) ?_
        rw [show (R.drop 0).take 98 = R by rw [List.drop_zero, List.take_of_length_le (by omega)]]
        refine hK.out _ _ trivial (fun _ => ?_)
        clear hK K
        (try simp only [Act.put, List.setIfInBounds_toArray, List.set_cons_zero, List.set_cons_succ])
        refine wpAnyH_ready (rs := [7]) (by kernel_rfl) (by simp) ?_
        refine AllReadyH.cons rfl (fun K hK => ?_) AllReadyH.nil
        show (if Region.wanted ⟨some 64, .load 33 (.tmp 4), _, _, _, some (6, true)⟩ _ = true then Oper.wp _ ⟨some 64, .load 33 (.tmp 4), _, _, _, some (6, true)⟩ _ _ _ _ else _)
        rw [if_pos (by rfl)]
        refine value_Of.wp_load 33 (.tmp 4) rfl rfl K3.out Try.underlying33 rfl value_Of.infoP (by omega) ?_
        rw [show (l.drop 0).take 98 = l by rw [List.drop_zero, List.take_of_length_le (by omega)]]
        refine hK.out _ _ trivial (fun _ => ?_)
        clear hK K
        (try simp only [Act.put, List.setIfInBounds_toArray, List.set_cons_zero, List.set_cons_succ])
        refine wpAnyH_ready (rs := [8]) (by kernel_rfl) (by simp) ?_
        refine AllReadyH.cons rfl (fun K hK => ?_) AllReadyH.nil
        show (if Region.wanted ⟨some 65, .call _, _, _, _, some (6, true)⟩ _ = true then Oper.wp _ ⟨some 65, .call _, _, _, _, some (6, true)⟩ _ _ _ _ else _)
        go_simp
        refine (value_Of.of_calls l _ (v) e2 E5.out).mono ?_
        rintro e w7 ⟨rfl, hb⟩
        have nK1 := Aside0.mk (blk_below K1.out hb)
        have nK2 := Aside0.mk (blk_below K2.out hb)
        have nK3 := Aside0.mk (blk_below K3.out hb)
        have nB := Aside0.mk (below_step KB.out hb)
        clear K1 K2 K3 KB hb
        have K1 := nK1
        have K2 := nK2
        have K3 := nK3
        have KB := nB
        clear nK1 nK2 nK3 nB
        refine hK.out _ _ trivial (fun _ => ?_)
        clear hK K
        (try simp only [Act.put, List.setIfInBounds_toArray, List.set_cons_zero, List.set_cons_succ])
        refine wpAnyH_ready (rs := [10]) (by kernel_rfl) (by simp) ?_
        refine AllReadyH.cons rfl (fun K hK => ?_) AllReadyH.nil
        show (if Region.wanted ⟨some 67, .call _, _, _, _, some (6, true)⟩ _ = true then Oper.wp _ ⟨some 67, .call _, _, _, _, some (6, true)⟩ _ _ _ _ else _)
        go_simp
        refine (value_Of.of_calls R _ (v) hRl E3.out).mono ?_
        rintro e w7 ⟨rfl, hb⟩
        have nK1 := Aside0.mk (blk_below K1.out hb)
        have nK2 := Aside0.mk (blk_below K2.out hb)
        have nK3 := Aside0.mk (blk_below K3.out hb)
        have nB := Aside0.mk (below_step KB.out hb)
        clear K1 K2 K3 KB hb
        have K1 := nK1
        have K2 := nK2
        have K3 := nK3
        have KB := nB
        clear nK1 nK2 nK3 nB
        refine hK.out _ _ trivial (fun _ => ?_)
        clear hK K
        (try simp only [Act.put, List.setIfInBounds_toArray, List.set_cons_zero, List.set_cons_succ])
        refine wpAnyH_ready (rs := [11]) (by kernel_rfl) (by simp) ?_
        refine AllReadyH.cons rfl (fun K hK => ?_) AllReadyH.nil
        show (if Region.wanted ⟨some 68, .binOp .eql 3 (.tmp 65) (.tmp 67) 3, _, _, _, some (6, true)⟩ _ = true then Oper.wp _ ⟨some 68, .binOp .eql 3 (.tmp 65) (.tmp 67) 3, _, _, _, some (6, true)⟩ _ _ _ _ else _)
        go_simp
        refine hK.out _ _ trivial (fun _ => ?_)
        clear hK K
        (try simp only [Act.put, List.setIfInBounds_toArray, List.set_cons_zero, List.set_cons_succ])
        refine wpAnyH_ready (rs := [12]) (by kernel_rfl) (by simp) ?_
        refine AllReadyH.cons rfl (fun K hK => ?_) AllReadyH.nil
        show (if Region.wanted ⟨some 69, .pick (.tmp 63) (.tmp 68) (.const (.bool false)), _, _, _, none⟩ _ = true then Oper.wp _ ⟨some 69, .pick (.tmp 63) (.tmp 68) (.const (.bool false)), _, _, _, none⟩ _ _ _ _ else _)
        go_simp
        refine hK.out _ _ trivial (fun _ => ?_)
        clear hK K
        (try simp only [Act.put, List.setIfInBounds_toArray, List.set_cons_zero, List.set_cons_succ])
        refine wpAnyH_ready (rs := [13]) (by kernel_rfl) (by simp) ?_
        refine AllReadyH.cons rfl (fun K hK => ?_) AllReadyH.nil
        show (if Region.wanted ⟨some 2, .assign (.tmp 69), _, _, _, none⟩ _ = true then Oper.wp _ ⟨some 2, .assign (.tmp 69), _, _, _, none⟩ _ _ _ _ else _)
        go_simp
        refine hK.out _ _ trivial (fun _ => ?_)
        clear hK K
        (try simp only [Act.put, List.setIfInBounds_toArray, List.set_cons_zero, List.set_cons_succ])
        refine wpAnyH_done (by kernel_rfl) ?_ _
        go_wp2
        go_meet
        exact ⟨rfl, KB⟩
      case rest =>
        clear K1 K2 K3 KB
        obtain ⟨rfl, KB⟩ := hcut
        go_wp2
        go_ret
        exact ⟨rfl, KB.out⟩
    · obtain ⟨d, hd⟩ : ∃ d, 81 - n = d + 1 := ⟨80 - n, by omega⟩
      have e := HR.out
      rw [hd] at e
      unfold kakugyolaw17_ValueTurns.turn at e
      obtain ⟨sv, hsd, e2⟩ := Option.bind_eq_some_iff.mp e
      have b0 : decide ((n : Int) < 81) = true := decide_eq_true (by omega)
      have b1 : (0 ≤ (n : Int) ∧ (n : Int) < 81) = True := eq_true (by omega)
      have b3 : ((n : Int) < 81) = True := eq_true (by omega)
      have cN : wr.cell? ⟨w.heap.size, n, none⟩ = some (.int .i8 (R.getD n 0)) := (blk_cell K1.out n).trans (value_Of.pv_get R n (by omega))
      obtain ⟨x, hx⟩ : ∃ x, x = R.getD n 0 := ⟨_, rfl⟩
      rw [← hx] at cN hsd e2
      have HSD := Aside0.mk hsd
      have f3 := blk_frozen K3.out (80 - n)
      have d3 : wr.cell? ⟨g3, 80 - n, none⟩ = some (.int .i8 (l.getD (80 - n) 0)) := (blk_cell K3.out (80 - n)).trans (value_Of.pv_get l (80 - n) (by omega))
      have ew : IntKind.i64.wrap ((n : Int) + 1) = (n : Int) + 1 := IntWalk.i64_in _ (by omega)
      have em : IntKind.i64.wrap (80 - (n : Int)) = 80 - (n : Int) := IntWalk.i64_in _ (by omega)
      have b1m : (0 ≤ 80 - (n : Int) ∧ 80 - (n : Int) < 81) = True := eq_true (by omega)
      have hd2 : d = 81 - (n + 1) := by omega
      rw [hd2] at e2
      obtain ⟨g', rfl⟩ : ∃ g', gk = g' + 1 := ⟨gk - 1, by omega⟩
      clear e hx hsd HR hd hd2
      by_cases hs0 : sv = 0
      · skip
        rw [if_pos hs0] at e2
        have HE := Aside0.mk e2
        have c0 : (sv == 0) = true := by simpa using hs0
        clear e2
        go_upto_region 11 with (first | (go_at_call 18; (with_reducible refine (kakugyoref02_Side.calls _ _ _ HSD.out).mono ?_); rintro e w7 ⟨rfl, ⟨n1, rfl⟩⟩; have m1 := Aside0.mk (blk_drewN K1.out n1); have m2 := Aside0.mk (blk_drewN K2.out n1); have m3 := Aside0.mk (blk_drewN K3.out n1); have mB := Aside0.mk (pw_below_drewN KB.out n1); clear K1 K2 K3 KB; have K1 := m1; have K2 := m2; have K3 := m3; have KB := mB; clear m1 m2 m3 mB))
        have B3 := (blk_set K3.out (80 - n) (.int .i8 (IntKind.i8.wrap (x + 16)))).trans (by rw [value_Of.pv_set])
        have B1 := blk_far K1.out (p := ⟨g3, 80 - n, none⟩) HN3.out (.int .i8 (IntKind.i8.wrap (x + 16)))
        have B2 := blk_far K2.out (p := ⟨g3, 80 - n, none⟩) HN23.out (.int .i8 (IntKind.i8.wrap (x + 16)))
        have BB := (KB.out).setCell (p := ⟨g3, 80 - n, none⟩) HG3.out (.int .i8 (IntKind.i8.wrap (x + 16)))
        generalize (wr.drewN n1).setCell ⟨g3, 80 - n, none⟩ (.int .i8 (IntKind.i8.wrap (x + 16))) = W5 at *
        clear K1 K2 K3 KB cN f3 d3
        have K1 := Aside0.mk B1
        have K2 := Aside0.mk B2
        have K3 := Aside0.mk B3
        have KB := Aside0.mk BB
        clear B1 B2 B3 BB
        go_wp2
        go_roundg g'
        case measure => omega
        case rel => exact ⟨n + 1, l.set (80 - n) (IntKind.i8.wrap (x + 16)), by simp, by omega, by rw [List.length_set, hll], HE, K1, K2, K3, KB, by omega⟩
      · by_cases hs1 : sv = 1
        · skip
          rw [if_neg hs0, if_pos hs1] at e2
          have HE := Aside0.mk e2
          have c0 : (sv == 0) = false := by simpa using hs0
          have c1 : (sv == 1) = true := by simpa using hs1
          clear e2
          go_upto_region 11 with (first | (go_at_call 18; (with_reducible refine (kakugyoref02_Side.calls _ _ _ HSD.out).mono ?_); rintro e w7 ⟨rfl, ⟨n1, rfl⟩⟩; have m1 := Aside0.mk (blk_drewN K1.out n1); have m2 := Aside0.mk (blk_drewN K2.out n1); have m3 := Aside0.mk (blk_drewN K3.out n1); have mB := Aside0.mk (pw_below_drewN KB.out n1); clear K1 K2 K3 KB; have K1 := m1; have K2 := m2; have K3 := m3; have KB := mB; clear m1 m2 m3 mB))
          have B3 := (blk_set K3.out (80 - n) (.int .i8 (IntKind.i8.wrap (x - 16)))).trans (by rw [value_Of.pv_set])
          have B1 := blk_far K1.out (p := ⟨g3, 80 - n, none⟩) HN3.out (.int .i8 (IntKind.i8.wrap (x - 16)))
          have B2 := blk_far K2.out (p := ⟨g3, 80 - n, none⟩) HN23.out (.int .i8 (IntKind.i8.wrap (x - 16)))
          have BB := (KB.out).setCell (p := ⟨g3, 80 - n, none⟩) HG3.out (.int .i8 (IntKind.i8.wrap (x - 16)))
          generalize (wr.drewN n1).setCell ⟨g3, 80 - n, none⟩ (.int .i8 (IntKind.i8.wrap (x - 16))) = W5 at *
          clear K1 K2 K3 KB cN f3 d3
          have K1 := Aside0.mk B1
          have K2 := Aside0.mk B2
          have K3 := Aside0.mk B3
          have KB := Aside0.mk BB
          clear B1 B2 B3 BB
          go_wp2
          go_roundg g'
          case measure => omega
          case rel => exact ⟨n + 1, l.set (80 - n) (IntKind.i8.wrap (x - 16)), by simp, by omega, by rw [List.length_set, hll], HE, K1, K2, K3, KB, by omega⟩
        · skip
          rw [if_neg hs0, if_neg hs1] at e2
          have HE := Aside0.mk e2
          have c0 : (sv == 0) = false := by simpa using hs0
          have c1 : (sv == 1) = false := by simpa using hs1
          clear e2
          go_upto_region 11 with (first | (go_at_call 18; (with_reducible refine (kakugyoref02_Side.calls _ _ _ HSD.out).mono ?_); rintro e w7 ⟨rfl, ⟨n1, rfl⟩⟩; have m1 := Aside0.mk (blk_drewN K1.out n1); have m2 := Aside0.mk (blk_drewN K2.out n1); have m3 := Aside0.mk (blk_drewN K3.out n1); have mB := Aside0.mk (pw_below_drewN KB.out n1); clear K1 K2 K3 KB; have K1 := m1; have K2 := m2; have K3 := m3; have KB := mB; clear m1 m2 m3 mB))
          clear cN f3 d3
          go_wp2
          go_roundg g'
          case measure => omega
          case rel => exact ⟨n + 1, l, by simp, by omega, hll, HE, K1, K2, K3, KB, by omega⟩

end Go.Proofs.Ytmoeodcmfjnihab.Pa
