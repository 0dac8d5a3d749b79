-- Printed by a program of this session: the kit's printer, with contracts of this session's own among its functions.
import Derived.Test.YtmoeodcmfjnihabPax0
import Derived.Test.YtmoeodcmfjnihabPax2
import Derived.Test.YtmoeodcmfjnihabPax5
namespace Go.Proofs.Ytmoeodcmfjnihab.Pa
open Go.RowKit Go.Proofs.YtmoeodcmfjnihabW.PrintWords Go.Proofs.YtmoeodcmfjnihabW.PrintLast Go.Proofs.YtmoeodcmfjnihabW.PrintMore
attribute [local go_sem] max2_int min2_int max_two min_two max_three min_three max_four min_four   -- for this text's walks alone
set_option linter.unusedVariables false
set_option linter.unusedSimpArgs false

/-! ### kakugyoref05_Check: function 17 -/
set_option maxRecDepth 100000 in
set_option maxHeartbeats 8000000 in
theorem kakugyoref05_Check.check_calls (cs : List Int) (w : World) (hl : cs.length = 98) (hK : ∀ v : Int, ∃ k, kakugyoref02_Kind.f (wrap64 v) = some k) (hKR : ∀ v : Int, ∃ k, kakugyoref02_Kind.f (wrap64 v) = some k ∧ ∃ r, kakugyoref02_Raw.f 9 k = some r) (hT : ∀ n : Nat, n < 8 → ∃ t, kakugyoref02_Total.f (n : Int) = some t) (hD : ∀ (v : Int) (n : Nat), n < 81 → ∃ b, kakugyoref03_Dead.f 9 (wrap64 v) (n : Int) = some b) :
    Calls Try.prog 17 #[.agg (value_Of.pv cs)] w fun e w' => ∃ r : Int, e = .returned (.int .i64 r) ∧ (r = 0 → cs.getD 97 0 = 0 ∨ cs.getD 97 0 = 1) ∧ Below w.heap.size w w' := by
  have HKK := Aside0.mk hK
  have HKR := Aside0.mk hKR
  have HTT := Aside0.mk hT
  have HDD := Aside0.mk hD
  clear hK hKR hT hD
  have B1 : (w.alloc (Obj.cells (value_Of.pv cs) 33)).heap[w.heap.size]? = some (.cells (value_Of.pv cs) 33 (0, 0)) := blk_new w _
  have BB : Below w.heap.size w (w.alloc (Obj.cells (value_Of.pv cs) 33)) := below_alloc (Below.refl _ _) _
  go_enter Try.func17, Try.ntmps17
  go_upto_region 1 with (fail)
  generalize w.alloc (Obj.cells (value_Of.pv cs) 33) = W at *
  have c97 : W.cell? ⟨w.heap.size, 97, none⟩ = some (.int .i8 (cs.getD 97 0)) := (blk_cell B1 97).trans (value_Of.pv_get cs 97 (by omega))
  have K1 := Aside0.mk B1
  have KB := Aside0.mk BB
  clear B1 BB
  by_cases hS : cs.getD 97 0 = 0 ∨ cs.getD 97 0 = 1
  · have HS := Aside0.mk hS
    generalize cs.getD 97 0 = sd at c97 hS
    rcases hS with rfl | rfl
    all_goals (
      go_upto_region 3 with (fail)
      clear c97
      go_wp2
      go_loopg [3] 82 (fun gf s3 wx => ∃ (n : Nat), s3 = .int .i64 n ∧ 0 ≤ n ∧ n ≤ 81 ∧ Aside0 (wx.heap[w.heap.size]? = some (.cells (value_Of.pv cs) 33 (0, 0))) ∧ Aside0 (Below w.heap.size w wx) ∧ 82 ≤ gf + n)
      case atStart => exact ⟨0, rfl, by omega, by omega, K1, KB, by omega⟩
      case round =>
        clear K1 KB
        obtain ⟨n, rfl, hlon, hnn, K1, KB, hgfn⟩ := hrel
        by_cases hend : n = 81
        · subst hend
          go_wp2
          go_loopg [4] 9 (fun gf s4 wx => ∃ (n : Nat), s4 = .int .i64 n ∧ 0 ≤ n ∧ n ≤ 8 ∧ Aside0 (wx.heap[w.heap.size]? = some (.cells (value_Of.pv cs) 33 (0, 0))) ∧ Aside0 (Below w.heap.size w wx) ∧ 9 ≤ gf + n)
          case atStart => exact ⟨0, rfl, by omega, by omega, K1, KB, by omega⟩
          case round =>
            clear K1 KB
            obtain ⟨n, rfl, hlon, hnn, K1, KB, hgfn⟩ := hrel
            by_cases hend : n = 8
            · subst hend
              go_wp2_with (first | ((with_reducible refine gate_dst (N := 60) rfl ?_); refine value_Of.load rfl 33 (.tmp 1) rfl rfl K1.out Try.underlying33 rfl value_Of.infoP (by omega) ?_; rw [show (cs.drop 0).take 98 = cs by rw [List.drop_zero, List.take_of_length_le (by omega)]]) | (go_at_call 37; refine (kakugyoref05_On.all_calls cs _ _ hl).mono ?_; rintro e w7 ⟨r1, rfl, hb⟩; have n1 := Aside0.mk (blk_below K1.out hb); have nB := Aside0.mk (below_step KB.out hb); clear K1 KB hb; have K1 := n1; have KB := nB; clear n1 nB))
              cases hx1 : (r1 != 1)
              · go_wp2_with (first | ((with_reducible refine gate_dst (N := 64) rfl ?_); (try (refine gate_guard (by rfl) ?_; dsimp only)); refine value_Of.load rfl 33 (.tmp 1) rfl rfl K1.out Try.underlying33 rfl value_Of.infoP (by omega) ?_; rw [show (cs.drop 0).take 98 = cs by rw [List.drop_zero, List.take_of_length_le (by omega)]]) | (go_at_call 37; refine (kakugyoref05_On.all_calls cs _ _ hl).mono ?_; rintro e w7 ⟨r2, rfl, hb⟩; have n1 := Aside0.mk (blk_below K1.out hb); have nB := Aside0.mk (below_step KB.out hb); clear K1 KB hb; have K1 := n1; have KB := nB; clear n1 nB))
                all_goals try (go_ret; exact ⟨_, rfl, fun _ => HS.out, KB.out⟩)
                generalize (r1 != 1) = t1 at *
                obtain rfl : t1 = false := by assumption
                generalize (r2 != 1) = t2 at *
                obtain rfl : t2 = false := by assumption
                go_loopg [7] 9 (fun gf s7 wx => ∃ (n : Nat), s7 = .int .i64 n ∧ 1 ≤ n ∧ n ≤ 8 ∧ Aside0 (wx.heap[w.heap.size]? = some (.cells (value_Of.pv cs) 33 (0, 0))) ∧ Aside0 (Below w.heap.size w wx) ∧ 9 ≤ gf + n)
                case atStart => exact ⟨1, rfl, by omega, by omega, K1, KB, by omega⟩
                case round =>
                  clear K1 KB
                  obtain ⟨n, rfl, hlon, hnn, K1, KB, hgfn⟩ := hrel
                  by_cases hend : n = 8
                  · subst hend
                    go_wp2
                    go_loopg [8] 82 (fun gf s8 wx => ∃ (n : Nat), s8 = .int .i64 n ∧ 0 ≤ n ∧ n ≤ 81 ∧ Aside0 (wx.heap[w.heap.size]? = some (.cells (value_Of.pv cs) 33 (0, 0))) ∧ Aside0 (Below w.heap.size w wx) ∧ 82 ≤ gf + n)
                    case atStart => exact ⟨0, rfl, by omega, by omega, K1, KB, by omega⟩
                    case round =>
                      clear K1 KB
                      obtain ⟨n, rfl, hlon, hnn, K1, KB, hgfn⟩ := hrel
                      by_cases hend : n = 81
                      · subst hend
                        go_wp2
                        go_loopg [9] 10 (fun gf s9 wx => ∃ (n : Nat), s9 = .int .i64 n ∧ 0 ≤ n ∧ n ≤ 9 ∧ Aside0 (wx.heap[w.heap.size]? = some (.cells (value_Of.pv cs) 33 (0, 0))) ∧ Aside0 (Below w.heap.size w wx) ∧ 10 ≤ gf + n)
                        case atStart => exact ⟨0, rfl, by omega, by omega, K1, KB, by omega⟩
                        case round =>
                          clear K1 KB
                          obtain ⟨n, rfl, hlon, hnn, K1, KB, hgfn⟩ := hrel
                          by_cases hend : n = 9
                          · subst hend
                            go_wp2
                            go_ret
                            exact ⟨_, rfl, fun _ => HS.out, KB.out⟩
                          · have b0n : decide ((n : Int) < 9) = true := decide_eq_true (by omega)
                            have b1n : (0 ≤ (n : Int) ∧ (n : Int) < 9) = True := eq_true (by omega)
                            have b3n : ((n : Int) < 9) = True := eq_true (by omega)
                            have ewn : IntKind.i64.wrap ((n : Int) + 1) = (n : Int) + 1 := IntWalk.i64_in _ (by omega)
                            obtain ⟨g', rfl⟩ : ∃ g', gk = g' + 1 := ⟨gk - 1, by omega⟩
                            have hn9 : n < 9 := by omega
                            have HN9 := Aside0.mk hn9
                            clear hn9
                            go_wp2_with (first | ((with_reducible refine gate_dst (N := 93) rfl ?_); refine value_Of.load rfl 33 (.tmp 1) rfl rfl K1.out Try.underlying33 rfl value_Of.infoP (by omega) ?_; rw [show (cs.drop 0).take 98 = cs by rw [List.drop_zero, List.take_of_length_le (by omega)]]) | (go_at_call 41; refine (kakugyoref05_On.on_calls cs _ n _ hl HN9.out).mono ?_; rintro e w7 ⟨r1, rfl, hb⟩; have n1 := Aside0.mk (blk_below K1.out hb); have nB := Aside0.mk (below_step KB.out hb); clear K1 KB hb; have K1 := n1; have KB := nB; clear n1 nB))
                            cases hx1 : (decide (1 < r1))
                            · go_wp2_with (first | ((with_reducible refine gate_dst (N := 98) rfl ?_); (try (refine gate_guard (by rfl) ?_; dsimp only)); refine value_Of.load rfl 33 (.tmp 1) rfl rfl K1.out Try.underlying33 rfl value_Of.infoP (by omega) ?_; rw [show (cs.drop 0).take 98 = cs by rw [List.drop_zero, List.take_of_length_le (by omega)]]) | (go_at_call 41; refine (kakugyoref05_On.on_calls cs _ n _ hl HN9.out).mono ?_; rintro e w7 ⟨r2, rfl, hb⟩; have n1 := Aside0.mk (blk_below K1.out hb); have nB := Aside0.mk (below_step KB.out hb); clear K1 KB hb; have K1 := n1; have KB := nB; clear n1 nB))
                              all_goals try (go_ret; exact ⟨_, rfl, fun _ => HS.out, KB.out⟩)
                              go_roundg g'
                              case measure => omega
                              case rel => exact ⟨n + 1, by simp, by omega, by omega, K1, KB, by omega⟩
                            · go_wp2
                              go_ret
                              exact ⟨_, rfl, fun _ => HS.out, KB.out⟩
                      · have b0n : decide ((n : Int) < 81) = true := decide_eq_true (by omega)
                        have b1n : (0 ≤ (n : Int) ∧ (n : Int) < 81) = True := eq_true (by omega)
                        have b3n : ((n : Int) < 81) = True := eq_true (by omega)
                        have ewn : IntKind.i64.wrap ((n : Int) + 1) = (n : Int) + 1 := IntWalk.i64_in _ (by omega)
                        obtain ⟨g', rfl⟩ : ∃ g', gk = g' + 1 := ⟨gk - 1, by omega⟩
                        have cN : wr.cell? ⟨w.heap.size, n, none⟩ = some (.int .i8 (cs.getD n 0)) := (blk_cell K1.out n).trans (value_Of.pv_get cs n (by omega))
                        generalize cs.getD n 0 = v at cN
                        obtain ⟨dd, hd⟩ := HDD.out v n (by omega)
                        have HD := Aside0.mk hd
                        clear hd
                        cases dd
                        · go_wp2_with (first | (go_at_call 40; refine (kakugyoref03_Dead.calls _ _ _ _ _ HD.out).mono ?_; rintro e w7 ⟨rfl, hd⟩; have hb := hd.below; clear hd; have n1 := Aside0.mk (blk_below K1.out hb); have nB := Aside0.mk (below_step KB.out hb); clear K1 KB hb; have K1 := n1; have KB := nB; clear n1 nB))
                          go_roundg g'
                          case measure => omega
                          case rel => exact ⟨n + 1, by simp, by omega, by omega, K1, KB, by omega⟩
                        · go_wp2_with (first | (go_at_call 40; refine (kakugyoref03_Dead.calls _ _ _ _ _ HD.out).mono ?_; rintro e w7 ⟨rfl, hd⟩; have hb := hd.below; clear hd; have n1 := Aside0.mk (blk_below K1.out hb); have nB := Aside0.mk (below_step KB.out hb); clear K1 KB hb; have K1 := n1; have KB := nB; clear n1 nB))
                          go_ret
                          exact ⟨_, rfl, fun _ => HS.out, KB.out⟩
                  · have b0n : decide ((n : Int) < 8) = true := decide_eq_true (by omega)
                    have b1n : (0 ≤ (n : Int) ∧ (n : Int) < 8) = True := eq_true (by omega)
                    have b3n : ((n : Int) < 8) = True := eq_true (by omega)
                    have ewn : IntKind.i64.wrap ((n : Int) + 1) = (n : Int) + 1 := IntWalk.i64_in _ (by omega)
                    obtain ⟨g', rfl⟩ : ∃ g', gk = g' + 1 := ⟨gk - 1, by omega⟩
                    have hn8 : n < 8 := by omega
                    have HN8 := Aside0.mk hn8
                    obtain ⟨tt, ht⟩ := HTT.out n hn8
                    have HT := Aside0.mk ht
                    clear ht hn8
                    go_wp2_with (first | ((with_reducible refine gate_dst (N := 72) rfl ?_); refine value_Of.load rfl 33 (.tmp 1) rfl rfl K1.out Try.underlying33 rfl value_Of.infoP (by omega) ?_; rw [show (cs.drop 0).take 98 = cs by rw [List.drop_zero, List.take_of_length_le (by omega)]]) | (go_at_call 38; refine (kakugyoref05_Count.count_calls cs n _ hl HN8.out HKR.out).mono ?_; rintro e w7 ⟨r1, rfl, hb⟩; have n1 := Aside0.mk (blk_below K1.out hb); have nB := Aside0.mk (below_step KB.out hb); clear K1 KB hb; have K1 := n1; have KB := nB; clear n1 nB) | (go_at_call 39; refine (kakugyoref02_Total.calls _ _ _ HT.out).mono ?_; rintro e w7 ⟨rfl, hb⟩; have n1 := Aside0.mk (blk_below K1.out hb); have nB := Aside0.mk (below_step KB.out hb); clear K1 KB hb; have K1 := n1; have KB := nB; clear n1 nB))
                    all_goals try (go_ret; exact ⟨_, rfl, fun _ => HS.out, KB.out⟩)
                    go_roundg g'
                    case measure => omega
                    case rel => exact ⟨n + 1, by simp, by omega, by omega, K1, KB, by omega⟩
              · go_wp2
                go_ret
                exact ⟨_, rfl, fun _ => HS.out, KB.out⟩
            · have b0n : decide ((n : Int) < 8) = true := decide_eq_true (by omega)
              have b1n : (0 ≤ (n : Int) ∧ (n : Int) < 8) = True := eq_true (by omega)
              have b3n : ((n : Int) < 8) = True := eq_true (by omega)
              have ewn : IntKind.i64.wrap ((n : Int) + 1) = (n : Int) + 1 := IntWalk.i64_in _ (by omega)
              obtain ⟨g', rfl⟩ : ∃ g', gk = g' + 1 := ⟨gk - 1, by omega⟩
              go_wp2
              go_loopg [5] 3 (fun gf s5 wx => ∃ (n : Nat), s5 = .int .i64 n ∧ 0 ≤ n ∧ n ≤ 2 ∧ Aside0 (wx.heap[w.heap.size]? = some (.cells (value_Of.pv cs) 33 (0, 0))) ∧ Aside0 (Below w.heap.size w wx) ∧ 3 ≤ gf + n)
              case atStart => exact ⟨0, rfl, by omega, by omega, K1, KB, by omega⟩
              case round =>
                clear K1 KB
                obtain ⟨m, rfl, hlom, hnm, K1, KB, hgfm⟩ := hrel
                by_cases hend : m = 2
                · subst hend
                  go_wp2
                  go_roundg g'
                  case measure => omega
                  case rel => exact ⟨n + 1, by simp, by omega, by omega, K1, KB, by omega⟩
                · have b0m : decide ((m : Int) < 2) = true := decide_eq_true (by omega)
                  have b1m : (0 ≤ (m : Int) ∧ (m : Int) < 2) = True := eq_true (by omega)
                  have b3m : ((m : Int) < 2) = True := eq_true (by omega)
                  have ewm : IntKind.i64.wrap ((m : Int) + 1) = (m : Int) + 1 := IntWalk.i64_in _ (by omega)
                  obtain ⟨g3, rfl⟩ : ∃ g3, gk = g3 + 1 := ⟨gk - 1, by omega⟩
                  obtain rfl | rfl : m = 0 ∨ m = 1 := by omega
                  · by_cases hn0 : n = 0
                    · subst hn0
                      have cA : wr.cell? ⟨w.heap.size, 81, none⟩ = some (.int .i8 (cs.getD (81) 0)) := (blk_cell K1.out (81)).trans (value_Of.pv_get cs (81) (by omega))
                      generalize cs.getD (81) 0 = v at cA
                      cases h1 : decide (v < 0)
                      · cases h3 : (v != 0)
                        · go_wp2
                          go_roundg g3
                          case measure => omega
                          case rel => exact ⟨1, by first | rfl | simp, by omega, by omega, K1, KB, by omega⟩
                        · go_wp2
                          go_ret
                          exact ⟨_, rfl, fun _ => HS.out, KB.out⟩
                      · go_wp2
                        go_ret
                        exact ⟨_, rfl, fun _ => HS.out, KB.out⟩
                    · have h2 : ((n : Int) == 0) = false := by simp; omega
                      have cA : wr.cell? ⟨w.heap.size, 81 + n, none⟩ = some (.int .i8 (cs.getD (81 + n) 0)) := (blk_cell K1.out (81 + n)).trans (value_Of.pv_get cs (81 + n) (by omega))
                      generalize cs.getD (81 + n) 0 = v at cA
                      cases h1 : decide (v < 0)
                      · go_wp2
                        go_roundg g3
                        case measure => omega
                        case rel => exact ⟨1, by first | rfl | simp, by omega, by omega, K1, KB, by omega⟩
                      · go_wp2
                        go_ret
                        exact ⟨_, rfl, fun _ => HS.out, KB.out⟩
                  · by_cases hn0 : n = 0
                    · subst hn0
                      have cA : wr.cell? ⟨w.heap.size, 89, none⟩ = some (.int .i8 (cs.getD (89) 0)) := (blk_cell K1.out (89)).trans (value_Of.pv_get cs (89) (by omega))
                      generalize cs.getD (89) 0 = v at cA
                      cases h1 : decide (v < 0)
                      · cases h3 : (v != 0)
                        · go_wp2
                          go_roundg g3
                          case measure => omega
                          case rel => exact ⟨2, by first | rfl | simp, by omega, by omega, K1, KB, by omega⟩
                        · go_wp2
                          go_ret
                          exact ⟨_, rfl, fun _ => HS.out, KB.out⟩
                      · go_wp2
                        go_ret
                        exact ⟨_, rfl, fun _ => HS.out, KB.out⟩
                    · have h2 : ((n : Int) == 0) = false := by simp; omega
                      have cA : wr.cell? ⟨w.heap.size, 89 + n, none⟩ = some (.int .i8 (cs.getD (89 + n) 0)) := (blk_cell K1.out (89 + n)).trans (value_Of.pv_get cs (89 + n) (by omega))
                      generalize cs.getD (89 + n) 0 = v at cA
                      cases h1 : decide (v < 0)
                      · go_wp2
                        go_roundg g3
                        case measure => omega
                        case rel => exact ⟨2, by first | rfl | simp, by omega, by omega, K1, KB, by omega⟩
                      · go_wp2
                        go_ret
                        exact ⟨_, rfl, fun _ => HS.out, KB.out⟩
        · have b0n : decide ((n : Int) < 81) = true := decide_eq_true (by omega)
          have b1n : (0 ≤ (n : Int) ∧ (n : Int) < 81) = True := eq_true (by omega)
          have b3n : ((n : Int) < 81) = True := eq_true (by omega)
          have ewn : IntKind.i64.wrap ((n : Int) + 1) = (n : Int) + 1 := IntWalk.i64_in _ (by omega)
          obtain ⟨g', rfl⟩ : ∃ g', gk = g' + 1 := ⟨gk - 1, by omega⟩
          have cN : wr.cell? ⟨w.heap.size, n, none⟩ = some (.int .i8 (cs.getD n 0)) := (blk_cell K1.out n).trans (value_Of.pv_get cs n (by omega))
          generalize cs.getD n 0 = v at cN
          obtain ⟨k, hk⟩ := HKK.out v
          have HK := Aside0.mk hk
          clear hk
          cases h1 : (v != 0)
          · go_wp2
            go_roundg g'
            case measure => omega
            case rel => exact ⟨n + 1, by simp, by omega, by omega, K1, KB, by omega⟩
          · cases h2 : (k == 0)
            · go_wp2_with (first | (go_at_call 36; refine (kakugyoref02_Kind.calls _ _ _ HK.out).mono ?_; rintro e w7 ⟨rfl, hd⟩; have hb := hd.below; clear hd; have n1 := Aside0.mk (blk_below K1.out hb); have nB := Aside0.mk (below_step KB.out hb); clear K1 KB hb; have K1 := n1; have KB := nB; clear n1 nB))
              go_roundg g'
              case measure => omega
              case rel => exact ⟨n + 1, by simp, by omega, by omega, K1, KB, by omega⟩
            · go_wp2_with (first | (go_at_call 36; refine (kakugyoref02_Kind.calls _ _ _ HK.out).mono ?_; rintro e w7 ⟨rfl, hd⟩; have hb := hd.below; clear hd; have n1 := Aside0.mk (blk_below K1.out hb); have nB := Aside0.mk (below_step KB.out hb); clear K1 KB hb; have K1 := n1; have KB := nB; clear n1 nB))
              go_ret
              exact ⟨_, rfl, fun _ => HS.out, KB.out⟩
    )
  · have h0 : (cs.getD 97 0 != 0) = true := by simp at hS ⊢; exact hS.1
    have h1 : (cs.getD 97 0 != 1) = true := by simp at hS ⊢; exact hS.2
    generalize cs.getD 97 0 = sd at c97 h0 h1
    clear hS
    go_wp2
    go_ret
    exact ⟨1, rfl, fun h => by omega, KB.out⟩

end Go.Proofs.Ytmoeodcmfjnihab.Pa
