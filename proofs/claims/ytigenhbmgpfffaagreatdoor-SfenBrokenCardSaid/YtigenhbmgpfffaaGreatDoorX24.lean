import Derived.Test.YtigenhbmgpfffaaGreatDoorX13
import Derived.Test.YtigenhbmgpfffaaGreatDoorX14
import Derived.Test.YtigenhbmgpfffaaGreatDoorX16
import Derived.Test.YtigenhbmgpfffaaGreatDoorX23
namespace Go.Proofs.YtigenhbmgpfffaaGreatDoor.Pa
open Go.RowKit Go.Proofs.YtigenhbmgpfffaaGreatDoorW.PrintWords Go.Proofs.YtigenhbmgpfffaaGreatDoorW.PrintLast Go.Proofs.YtigenhbmgpfffaaGreatDoorW.PrintMore
attribute [local go_sem] max2_int min2_int max_two min_two max_three min_three max_four min_four
set_option linter.unusedVariables false
set_option linter.unusedSimpArgs false
def attack_On.go (q side tu tv : Int) (us : List Int) : Nat → Nat → Int → Int → Option (Int × Int)
  | _, 0, s1, s2 => some (s1, s2)
  | k, d + 1, s1, s2 => (piece_Of.f (wrap64 (1 - side)) (k : Int)).bind fun x => if x = 0 then attack_On.go q side tu tv us (k + 1) d s1 s2 else (ray_Of.f 100 x q tu tv).bind fun r => (board_Board_Of.f side (k : Int) us).bind fun o => (set_Set_And.f r.1 r.2 o.1 o.2).bind fun a => (set_Set_Or.f s1 s2 a.1 a.2).bind fun b => attack_On.go q side tu tv us (k + 1) d b.1 b.2
def attack_On.f (q side tu tv : Int) (us : List Int) : Option (Int × Int) := if q < 0 ∨ 81 ≤ q then some (0, 0) else attack_On.go q side tu tv us 1 15 0 0
set_option maxRecDepth 100000 in
set_option maxHeartbeats 16000000 in
theorem attack_On.on_calls (cs us : List Int) (q side tu tv u v : Int) (g : Nat) (w : World) (hl : cs.length = 98) (hul : us.length = 68) (hs : side = 0 ∨ side = 1) (hb : w.heap[g]? = some (.cells (bd cs us) 93 (0, 0))) (h : attack_On.f q side tu tv us = some (u, v)) :
    Calls Tryz.prog 95 #[.pointer (some ⟨g, 0, none⟩), .int .i64 q, .int .i64 side, .agg (sv tu tv)] w fun e w' => e = .returned (.agg (sv u v)) ∧ Below w.heap.size w w' := by
  have hz := s2_zero
  have H1 := Aside0.mk h
  have K1 : Aside0 ((((w.alloc (Obj.cells (sv tu tv) 88)).alloc (Obj.cells (sv 0 0) 88)).alloc (Obj.cells (sv 0 0) 88)).heap[g]? = some (.cells (bd cs us) 93 (0, 0))) := ⟨blk_alloc (blk_alloc (blk_alloc hb _) _) _⟩
  have z1 : (w.alloc (Obj.cells (sv tu tv) 88)).heap.size = w.heap.size + 1 := by simp [go_sem]
  have z2 : ((w.alloc (Obj.cells (sv tu tv) 88)).alloc (Obj.cells (sv 0 0) 88)).heap.size = w.heap.size + 1 + 1 := by simp [go_sem]
  have K7 : Aside0 ((((w.alloc (Obj.cells (sv tu tv) 88)).alloc (Obj.cells (sv 0 0) 88)).alloc (Obj.cells (sv 0 0) 88)).heap[w.heap.size]? = some (.cells (sv tu tv) 88 (0, 0))) := ⟨blk_alloc (blk_alloc (blk_new w _) _) _⟩
  have K8 : Aside0 ((((w.alloc (Obj.cells (sv tu tv) 88)).alloc (Obj.cells (sv 0 0) 88)).alloc (Obj.cells (sv 0 0) 88)).heap[w.heap.size + 1]? = some (.cells (sv 0 0) 88 (0, 0))) := ⟨by rw [← z1]; exact blk_alloc (blk_new _ _) _⟩
  have K9 : Aside0 ((((w.alloc (Obj.cells (sv tu tv) 88)).alloc (Obj.cells (sv 0 0) 88)).alloc (Obj.cells (sv 0 0) 88)).heap[w.heap.size + 1 + 1]? = some (.cells (sv 0 0) 88 (0, 0))) := ⟨by rw [← z2]; exact blk_new _ _⟩
  have KB : Aside0 (Below w.heap.size w (((w.alloc (Obj.cells (sv tu tv) 88)).alloc (Obj.cells (sv 0 0) 88)).alloc (Obj.cells (sv 0 0) 88))) := ⟨below_alloc (below_alloc (below_alloc (Below.refl _ _) _) _) _⟩
  have hgl := blk_lt hb
  clear hb h z1 z2
  go_enter Tryz.func95, Tryz.ntmps95
  go_upto_region 2 with (fail)
  generalize ((w.alloc (Obj.cells (sv tu tv) 88)).alloc (Obj.cells (sv 0 0) 88)).alloc (Obj.cells (sv 0 0) 88) = W at *
  generalize hg8 : w.heap.size + 1 = g8 at *
  have HN19 : Aside0 (g ≠ (g8 + 1)) := ⟨by omega⟩
  have HN79 : Aside0 (w.heap.size ≠ (g8 + 1)) := ⟨by omega⟩
  have HN89 : Aside0 (g8 ≠ (g8 + 1)) := ⟨by omega⟩
  have HGK8 : Aside0 (w.heap.size ≤ g8) := ⟨by omega⟩
  have HGK9 : Aside0 (w.heap.size ≤ (g8 + 1)) := ⟨by omega⟩
  clear hg8 hgl
  have e1 := H1.out
  unfold attack_On.f at e1
  clear H1
  by_cases hq : q < 0 ∨ 81 ≤ q
  · rw [if_pos hq] at e1
    have e3 := Option.some.inj e1
    simp only [Prod.mk.injEq] at e3
    obtain ⟨rfl, rfl⟩ := e3
    clear e1
    by_cases hq0 : q < 0
    · have b0 : decide (q < 0) = true := decide_eq_true hq0
      have b00 : (q < 0) = True := eq_true hq0
      clear hq hq0
      go_wp2_with (first | ((with_reducible refine gate_dst (N := 26) rfl ?_); refine s2_load rfl (.tmp 9) rfl rfl K9.out ?_) | ((with_reducible refine gate_store (t := 88) (p := 8) (v := .tmp 26) rfl ?_); refine s2_store rfl (.tmp 8) (.tmp 26) rfl rfl rfl rfl K8.out ?_; intro W3 s1 s2; have n2 := Aside0.mk s1; have nB := Aside0.mk (s2.2.1 _ _ HGK8.out KB.out); clear K1 K7 K8 K9 KB s1 s2; have K8 := n2; have KB := nB; clear n2 nB))
      refine bodyPost_ret (s2_results (p := 8) rfl rfl K8.out) rfl ?_
      exact ⟨rfl, KB.out⟩
    · have b0 : decide (q < 0) = false := decide_eq_false hq0
      have b00 : (q < 0) = False := eq_false hq0
      have b1 : decide (81 ≤ q) = true := decide_eq_true (by omega)
      have b11 : (81 ≤ q) = True := eq_true (by omega)
      clear hq hq0
      go_wp2_with (first | ((with_reducible refine gate_dst (N := 26) rfl ?_); refine s2_load rfl (.tmp 9) rfl rfl K9.out ?_) | ((with_reducible refine gate_store (t := 88) (p := 8) (v := .tmp 26) rfl ?_); refine s2_store rfl (.tmp 8) (.tmp 26) rfl rfl rfl rfl K8.out ?_; intro W3 s1 s2; have n2 := Aside0.mk s1; have nB := Aside0.mk (s2.2.1 _ _ HGK8.out KB.out); clear K1 K7 K8 K9 KB s1 s2; have K8 := n2; have KB := nB; clear n2 nB))
      refine bodyPost_ret (s2_results (p := 8) rfl rfl K8.out) rfl ?_
      exact ⟨rfl, KB.out⟩
  · rw [if_neg hq] at e1
    have E1 := Aside0.mk e1
    have b0 : decide (q < 0) = false := decide_eq_false (by omega)
    have b00 : (q < 0) = False := eq_false (by omega)
    have b1 : decide (81 ≤ q) = false := decide_eq_false (by omega)
    have b11 : (81 ≤ q) = False := eq_false (by omega)
    clear e1 hq
    have HSD := Aside0.mk hs
    rcases hs with hs | hs
    all_goals (
      first
        | (have f0 : (side != 0) = false := by rw [hs]; rfl)
        | (have f0 : (side != 0) = true := by rw [hs]; rfl
           have f1 : (side != 1) = false := by rw [hs]; rfl)
      clear hs
      go_upto_region 4 with (fail)
      go_wp2
      go_loopg [10] 17 (fun gf s10 wx => ∃ (n : Nat) (s1 s2 : Int), s10 = .int .i64 n ∧ 1 ≤ n ∧ n ≤ 16 ∧ Aside0 (attack_On.go q side tu tv us n (16 - n) s1 s2 = some (u, v)) ∧ Aside0 (wx.heap[g]? = some (.cells (bd cs us) 93 (0, 0))) ∧ Aside0 (wx.heap[w.heap.size]? = some (.cells (sv tu tv) 88 (0, 0))) ∧ Aside0 (wx.heap[g8]? = some (.cells (sv 0 0) 88 (0, 0))) ∧ Aside0 (wx.heap[(g8 + 1)]? = some (.cells (sv s1 s2) 88 (0, 0))) ∧ Aside0 (Below w.heap.size w wx) ∧ 17 ≤ gf + n)
      case atStart => exact ⟨1, 0, 0, rfl, by omega, by omega, E1, K1, K7, K8, K9, KB, by omega⟩
      case round =>
        clear K1 K7 K8 K9 KB E1
        obtain ⟨n, s1, s2, rfl, hn1, hn, HR, K1, K7, K8, K9, KB, hgf⟩ := hrel
        by_cases hend : n = 16
        · subst hend
          have er : (s1, s2) = (u, v) := Option.some.inj HR.out
          simp only [Prod.mk.injEq] at er
          obtain ⟨rfl, rfl⟩ := er
          clear HR
          go_wp2_with (first | ((with_reducible refine gate_dst (N := 48) rfl ?_); refine s2_load rfl (.tmp 9) rfl rfl K9.out ?_) | ((with_reducible refine gate_store (t := 88) (p := 8) (v := .tmp 48) rfl ?_); refine s2_store rfl (.tmp 8) (.tmp 48) rfl rfl rfl rfl K8.out ?_; intro W3 s1 s2; have n2 := Aside0.mk s1; have nB := Aside0.mk (s2.2.1 _ _ HGK8.out KB.out); clear K1 K7 K8 K9 KB s1 s2; have K8 := n2; have KB := nB; clear n2 nB))
          refine bodyPost_ret (s2_results (p := 8) rfl rfl K8.out) rfl ?_
          exact ⟨rfl, KB.out⟩
        · obtain ⟨d, hd⟩ : ∃ d, 16 - n = d + 1 := ⟨15 - n, by omega⟩
          have e := HR.out
          rw [hd] at e
          unfold attack_On.go at e
          obtain ⟨x, hx, e2⟩ := Option.bind_eq_some_iff.mp e
          have HX := Aside0.mk hx
          have b2 : decide ((n : Int) ≤ 15) = true := decide_eq_true (by omega)
          have b3 : ((n : Int) ≤ 15) = True := eq_true (by omega)
          have ew : IntKind.i64.wrap ((n : Int) + 1) = (n : Int) + 1 := IntWalk.i64_in _ (by omega)
          have hd2 : d = 16 - (n + 1) := by omega
          rw [hd2] at e2
          obtain ⟨g', rfl⟩ : ∃ g', gk = g' + 1 := ⟨gk - 1, by omega⟩
          clear e hx HR hd hd2
          by_cases h0 : x = 0
          · rw [if_pos h0] at e2
            have HE := Aside0.mk e2
            have c0 : (x == 0) = true := by simpa using h0
            clear e2 h0
            go_wp2_with (first | (go_at_call 27; (with_reducible refine (piece_Of.calls _ _ _ _ HX.out).mono ?_); rintro e w7 ⟨rfl, hd⟩; have hb := hd.below; clear hd; have nK1 := Aside0.mk (blk_below K1.out hb); have nK7 := Aside0.mk (blk_below K7.out hb); have nK8 := Aside0.mk (blk_below K8.out hb); have nK9 := Aside0.mk (blk_below K9.out hb); have nB := Aside0.mk (below_step KB.out hb); clear K1 K7 K8 K9 KB hb; have K1 := nK1; have K7 := nK7; have K8 := nK8; have K9 := nK9; have KB := nB; clear nK1 nK7 nK8 nK9 nB))
            go_roundg g'
            case measure => omega
            case rel => exact ⟨n + 1, s1, s2, by simp, by omega, by omega, HE, K1, K7, K8, K9, KB, by omega⟩
          · rw [if_neg h0] at e2
            obtain ⟨⟨ra, rb⟩, hA, e3⟩ := Option.bind_eq_some_iff.mp e2
            obtain ⟨⟨oa, ob⟩, hB, e4⟩ := Option.bind_eq_some_iff.mp e3
            obtain ⟨⟨aa, ab⟩, hC, e5⟩ := Option.bind_eq_some_iff.mp e4
            obtain ⟨⟨ba, bb⟩, hD, e6⟩ := Option.bind_eq_some_iff.mp e5
            have HA := Aside0.mk hA
            have HB := Aside0.mk hB
            have HC := Aside0.mk hC
            have HD := Aside0.mk hD
            have HE := Aside0.mk e6
            have c0 : (x == 0) = false := by simpa using h0
            clear e2 e3 e4 e5 e6 hA hB hC hD h0
            go_upto_region 9 with (first | (go_at_call 27; (with_reducible refine (piece_Of.calls _ _ _ _ HX.out).mono ?_); rintro e w7 ⟨rfl, hd⟩; have hb := hd.below; clear hd; have nK1 := Aside0.mk (blk_below K1.out hb); have nK7 := Aside0.mk (blk_below K7.out hb); have nK8 := Aside0.mk (blk_below K8.out hb); have nK9 := Aside0.mk (blk_below K9.out hb); have nB := Aside0.mk (below_step KB.out hb); clear K1 K7 K8 K9 KB hb; have K1 := nK1; have K7 := nK7; have K8 := nK8; have K9 := nK9; have KB := nB; clear nK1 nK7 nK8 nK9 nB))
            refine wp_region_held_drew (S := fun _ => True) (by kernel_rfl) trivial (fun _ => ?_)
            have nK1 := Aside0.mk (blk_drew K1.out)
            have nK7 := Aside0.mk (blk_drew K7.out)
            have nK8 := Aside0.mk (blk_drew K8.out)
            have nK9 := Aside0.mk (blk_drew K9.out)
            have nB := Aside0.mk (below_drew KB.out)
            clear K1 K7 K8 K9 KB
            have K1 := nK1
            have K7 := nK7
            have K8 := nK8
            have K9 := nK9
            have KB := nB
            clear nK1 nK7 nK8 nK9 nB
            refine tk 1 ?_
            refine tk 2 ?_
            refine tk 5 ?_
            refine tk 6 ?_
            refine tk 7 ?_
            refine wpAnyH_ready (rs := [0, 3]) (by kernel_rfl) (by simp) ?_
            refine AllReadyH.cons rfl (fun K hK => ?_) ?_
            · show (if Region.wanted ⟨some 37, .load 88 (.tmp 9), _, _, _, none⟩ _ = true then Oper.wp _ ⟨some 37, .load 88 (.tmp 9), _, _, _, none⟩ _ _ _ _ else _)
              rw [if_pos (by rfl)]
              refine s2_wp_load (.tmp 9) rfl rfl K9.out ?_
              refine ko hK ?_
              clear hK K
              refine wpAnyH_ready (rs := [3]) (by kernel_rfl) (by simp) ?_
              refine AllReadyH.cons rfl (fun K hK => ?_) AllReadyH.nil
              show (if Region.wanted ⟨some 40, .load 88 (.tmp 7), _, _, _, none⟩ _ = true then Oper.wp _ ⟨some 40, .load 88 (.tmp 7), _, _, _, none⟩ _ _ _ _ else _)
              rw [if_pos (by rfl)]
              refine s2_wp_load (.tmp 7) rfl rfl K7.out ?_
              refine ko hK ?_
              clear hK K
              refine wpAnyH_ready (rs := [4]) (by kernel_rfl) (by simp) ?_
              refine AllReadyH.cons rfl (fun K hK => ?_) AllReadyH.nil
              show (if Region.wanted ⟨some 41, .call _, _, _, _, none⟩ _ = true then Oper.wp _ ⟨some 41, .call _, _, _, _, none⟩ _ _ _ _ else _)
              go_simp
              refine (ray_Of.calls _ _ _ _ _ _ _ _ HA.out).mono ?_
              rintro e w7 ⟨rfl, hb⟩
              have nK1 := Aside0.mk (blk_below K1.out hb)
              have nK7 := Aside0.mk (blk_below K7.out hb)
              have nK8 := Aside0.mk (blk_below K8.out hb)
              have nK9 := Aside0.mk (blk_below K9.out hb)
              have nB := Aside0.mk (below_step KB.out hb)
              clear K1 K7 K8 K9 KB hb
              have K1 := nK1
              have K7 := nK7
              have K8 := nK8
              have K9 := nK9
              have KB := nB
              clear nK1 nK7 nK8 nK9 nB
              refine ko hK ?_
              clear hK K
              refine wpAnyH_ready (rs := [8]) (by kernel_rfl) (by simp) ?_
              refine AllReadyH.cons rfl (fun K hK => ?_) AllReadyH.nil
              show (if Region.wanted ⟨some 45, .call _, _, _, _, none⟩ _ = true then Oper.wp _ ⟨some 45, .call _, _, _, _, none⟩ _ _ _ _ else _)
              go_simp
              refine (board_Board_Of.of_calls cs us _ _ _ _ g _ hl hul K1.out HB.out).mono ?_
              rintro e w7 ⟨rfl, hb⟩
              have nK1 := Aside0.mk (blk_below K1.out hb)
              have nK7 := Aside0.mk (blk_below K7.out hb)
              have nK8 := Aside0.mk (blk_below K8.out hb)
              have nK9 := Aside0.mk (blk_below K9.out hb)
              have nB := Aside0.mk (below_step KB.out hb)
              clear K1 K7 K8 K9 KB hb
              have K1 := nK1
              have K7 := nK7
              have K8 := nK8
              have K9 := nK9
              have KB := nB
              clear nK1 nK7 nK8 nK9 nB
              refine ko hK ?_
              clear hK K
              refine wpAnyH_ready (rs := [9]) (by kernel_rfl) (by simp) ?_
              refine AllReadyH.cons rfl (fun K hK => ?_) AllReadyH.nil
              show (if Region.wanted ⟨some 46, .call _, _, _, _, none⟩ _ = true then Oper.wp _ ⟨some 46, .call _, _, _, _, none⟩ _ _ _ _ else _)
              go_simp
              refine (set_Set_And.calls _ _ _ _ _ _ _ HC.out).mono ?_
              rintro e w7 ⟨rfl, hb⟩
              have nK1 := Aside0.mk (blk_below K1.out hb)
              have nK7 := Aside0.mk (blk_below K7.out hb)
              have nK8 := Aside0.mk (blk_below K8.out hb)
              have nK9 := Aside0.mk (blk_below K9.out hb)
              have nB := Aside0.mk (below_step KB.out hb)
              clear K1 K7 K8 K9 KB hb
              have K1 := nK1
              have K7 := nK7
              have K8 := nK8
              have K9 := nK9
              have KB := nB
              clear nK1 nK7 nK8 nK9 nB
              refine ko hK ?_
              clear hK K
              refine wpAnyH_ready (rs := [10]) (by kernel_rfl) (by simp) ?_
              refine AllReadyH.cons rfl (fun K hK => ?_) AllReadyH.nil
              show (if Region.wanted ⟨some 47, .call _, _, _, _, none⟩ _ = true then Oper.wp _ ⟨some 47, .call _, _, _, _, none⟩ _ _ _ _ else _)
              go_simp
              refine (set_Set_Or.calls _ _ _ _ _ _ _ HD.out).mono ?_
              rintro e w7 ⟨rfl, hb⟩
              have nK1 := Aside0.mk (blk_below K1.out hb)
              have nK7 := Aside0.mk (blk_below K7.out hb)
              have nK8 := Aside0.mk (blk_below K8.out hb)
              have nK9 := Aside0.mk (blk_below K9.out hb)
              have nB := Aside0.mk (below_step KB.out hb)
              clear K1 K7 K8 K9 KB hb
              have K1 := nK1
              have K7 := nK7
              have K8 := nK8
              have K9 := nK9
              have KB := nB
              clear nK1 nK7 nK8 nK9 nB
              refine ko hK ?_
              clear hK K
              refine wpAnyH_ready (rs := [11]) (by kernel_rfl) (by simp) ?_
              refine AllReadyH.cons rfl (fun K hK => ?_) AllReadyH.nil
              show (if Region.wanted ⟨none, .store 88 (.tmp 9) (.tmp 47), _, _, _, none⟩ _ = true then Oper.wp _ ⟨none, .store 88 (.tmp 9) (.tmp 47), _, _, _, none⟩ _ _ _ _ else _)
              rw [if_pos (by rfl)]
              refine s2_wp_store (.tmp 9) (.tmp 47) rfl rfl rfl rfl K9.out ?_
              intro W3 s1 s2
              have nK1 := Aside0.mk (s2.blk HN19.out K1.out)
              have nK7 := Aside0.mk (s2.blk HN79.out K7.out)
              have nK8 := Aside0.mk (s2.blk HN89.out K8.out)
              have nS := Aside0.mk s1
              have nB := Aside0.mk (s2.2.1 _ _ HGK9.out KB.out)
              clear K9 K1 K7 K8 KB s1 s2
              have K9 := nS
              have K1 := nK1
              have K7 := nK7
              have K8 := nK8
              have KB := nB
              clear nS nB nK1 nK7 nK8
              refine ko hK ?_
              clear hK K
              refine wpAnyH_done (by kernel_rfl) ?_ _
              go_wp2
              go_roundg g'
              case measure => omega
              case rel => exact ⟨n + 1, ba, bb, by simp, by omega, by omega, HE, K1, K7, K8, K9, KB, by omega⟩
            refine AllReadyH.cons rfl (fun K hK => ?_) AllReadyH.nil
            show (if Region.wanted ⟨some 40, .load 88 (.tmp 7), _, _, _, none⟩ _ = true then Oper.wp _ ⟨some 40, .load 88 (.tmp 7), _, _, _, none⟩ _ _ _ _ else _)
            rw [if_pos (by rfl)]
            refine s2_wp_load (.tmp 7) rfl rfl K7.out ?_
            refine ko hK ?_
            clear hK K
            refine wpAnyH_ready (rs := [0, 4]) (by kernel_rfl) (by simp) ?_
            refine AllReadyH.cons rfl (fun K hK => ?_) ?_
            · show (if Region.wanted ⟨some 37, .load 88 (.tmp 9), _, _, _, none⟩ _ = true then Oper.wp _ ⟨some 37, .load 88 (.tmp 9), _, _, _, none⟩ _ _ _ _ else _)
              rw [if_pos (by rfl)]
              refine s2_wp_load (.tmp 9) rfl rfl K9.out ?_
              refine ko hK ?_
              clear hK K
              refine wpAnyH_ready (rs := [4]) (by kernel_rfl) (by simp) ?_
              refine AllReadyH.cons rfl (fun K hK => ?_) AllReadyH.nil
              show (if Region.wanted ⟨some 41, .call _, _, _, _, none⟩ _ = true then Oper.wp _ ⟨some 41, .call _, _, _, _, none⟩ _ _ _ _ else _)
              go_simp
              refine (ray_Of.calls _ _ _ _ _ _ _ _ HA.out).mono ?_
              rintro e w7 ⟨rfl, hb⟩
              have nK1 := Aside0.mk (blk_below K1.out hb)
              have nK7 := Aside0.mk (blk_below K7.out hb)
              have nK8 := Aside0.mk (blk_below K8.out hb)
              have nK9 := Aside0.mk (blk_below K9.out hb)
              have nB := Aside0.mk (below_step KB.out hb)
              clear K1 K7 K8 K9 KB hb
              have K1 := nK1
              have K7 := nK7
              have K8 := nK8
              have K9 := nK9
              have KB := nB
              clear nK1 nK7 nK8 nK9 nB
              refine ko hK ?_
              clear hK K
              refine wpAnyH_ready (rs := [8]) (by kernel_rfl) (by simp) ?_
              refine AllReadyH.cons rfl (fun K hK => ?_) AllReadyH.nil
              show (if Region.wanted ⟨some 45, .call _, _, _, _, none⟩ _ = true then Oper.wp _ ⟨some 45, .call _, _, _, _, none⟩ _ _ _ _ else _)
              go_simp
              refine (board_Board_Of.of_calls cs us _ _ _ _ g _ hl hul K1.out HB.out).mono ?_
              rintro e w7 ⟨rfl, hb⟩
              have nK1 := Aside0.mk (blk_below K1.out hb)
              have nK7 := Aside0.mk (blk_below K7.out hb)
              have nK8 := Aside0.mk (blk_below K8.out hb)
              have nK9 := Aside0.mk (blk_below K9.out hb)
              have nB := Aside0.mk (below_step KB.out hb)
              clear K1 K7 K8 K9 KB hb
              have K1 := nK1
              have K7 := nK7
              have K8 := nK8
              have K9 := nK9
              have KB := nB
              clear nK1 nK7 nK8 nK9 nB
              refine ko hK ?_
              clear hK K
              refine wpAnyH_ready (rs := [9]) (by kernel_rfl) (by simp) ?_
              refine AllReadyH.cons rfl (fun K hK => ?_) AllReadyH.nil
              show (if Region.wanted ⟨some 46, .call _, _, _, _, none⟩ _ = true then Oper.wp _ ⟨some 46, .call _, _, _, _, none⟩ _ _ _ _ else _)
              go_simp
              refine (set_Set_And.calls _ _ _ _ _ _ _ HC.out).mono ?_
              rintro e w7 ⟨rfl, hb⟩
              have nK1 := Aside0.mk (blk_below K1.out hb)
              have nK7 := Aside0.mk (blk_below K7.out hb)
              have nK8 := Aside0.mk (blk_below K8.out hb)
              have nK9 := Aside0.mk (blk_below K9.out hb)
              have nB := Aside0.mk (below_step KB.out hb)
              clear K1 K7 K8 K9 KB hb
              have K1 := nK1
              have K7 := nK7
              have K8 := nK8
              have K9 := nK9
              have KB := nB
              clear nK1 nK7 nK8 nK9 nB
              refine ko hK ?_
              clear hK K
              refine wpAnyH_ready (rs := [10]) (by kernel_rfl) (by simp) ?_
              refine AllReadyH.cons rfl (fun K hK => ?_) AllReadyH.nil
              show (if Region.wanted ⟨some 47, .call _, _, _, _, none⟩ _ = true then Oper.wp _ ⟨some 47, .call _, _, _, _, none⟩ _ _ _ _ else _)
              go_simp
              refine (set_Set_Or.calls _ _ _ _ _ _ _ HD.out).mono ?_
              rintro e w7 ⟨rfl, hb⟩
              have nK1 := Aside0.mk (blk_below K1.out hb)
              have nK7 := Aside0.mk (blk_below K7.out hb)
              have nK8 := Aside0.mk (blk_below K8.out hb)
              have nK9 := Aside0.mk (blk_below K9.out hb)
              have nB := Aside0.mk (below_step KB.out hb)
              clear K1 K7 K8 K9 KB hb
              have K1 := nK1
              have K7 := nK7
              have K8 := nK8
              have K9 := nK9
              have KB := nB
              clear nK1 nK7 nK8 nK9 nB
              refine ko hK ?_
              clear hK K
              refine wpAnyH_ready (rs := [11]) (by kernel_rfl) (by simp) ?_
              refine AllReadyH.cons rfl (fun K hK => ?_) AllReadyH.nil
              show (if Region.wanted ⟨none, .store 88 (.tmp 9) (.tmp 47), _, _, _, none⟩ _ = true then Oper.wp _ ⟨none, .store 88 (.tmp 9) (.tmp 47), _, _, _, none⟩ _ _ _ _ else _)
              rw [if_pos (by rfl)]
              refine s2_wp_store (.tmp 9) (.tmp 47) rfl rfl rfl rfl K9.out ?_
              intro W3 s1 s2
              have nK1 := Aside0.mk (s2.blk HN19.out K1.out)
              have nK7 := Aside0.mk (s2.blk HN79.out K7.out)
              have nK8 := Aside0.mk (s2.blk HN89.out K8.out)
              have nS := Aside0.mk s1
              have nB := Aside0.mk (s2.2.1 _ _ HGK9.out KB.out)
              clear K9 K1 K7 K8 KB s1 s2
              have K9 := nS
              have K1 := nK1
              have K7 := nK7
              have K8 := nK8
              have KB := nB
              clear nS nB nK1 nK7 nK8
              refine ko hK ?_
              clear hK K
              refine wpAnyH_done (by kernel_rfl) ?_ _
              go_wp2
              go_roundg g'
              case measure => omega
              case rel => exact ⟨n + 1, ba, bb, by simp, by omega, by omega, HE, K1, K7, K8, K9, KB, by omega⟩
            refine AllReadyH.cons rfl (fun K hK => ?_) AllReadyH.nil
            show (if Region.wanted ⟨some 41, .call _, _, _, _, none⟩ _ = true then Oper.wp _ ⟨some 41, .call _, _, _, _, none⟩ _ _ _ _ else _)
            go_simp
            refine (ray_Of.calls _ _ _ _ _ _ _ _ HA.out).mono ?_
            rintro e w7 ⟨rfl, hb⟩
            have nK1 := Aside0.mk (blk_below K1.out hb)
            have nK7 := Aside0.mk (blk_below K7.out hb)
            have nK8 := Aside0.mk (blk_below K8.out hb)
            have nK9 := Aside0.mk (blk_below K9.out hb)
            have nB := Aside0.mk (below_step KB.out hb)
            clear K1 K7 K8 K9 KB hb
            have K1 := nK1
            have K7 := nK7
            have K8 := nK8
            have K9 := nK9
            have KB := nB
            clear nK1 nK7 nK8 nK9 nB
            refine ko hK ?_
            clear hK K
            refine wpAnyH_ready (rs := [0, 8]) (by kernel_rfl) (by simp) ?_
            refine AllReadyH.cons rfl (fun K hK => ?_) ?_
            · show (if Region.wanted ⟨some 37, .load 88 (.tmp 9), _, _, _, none⟩ _ = true then Oper.wp _ ⟨some 37, .load 88 (.tmp 9), _, _, _, none⟩ _ _ _ _ else _)
              rw [if_pos (by rfl)]
              refine s2_wp_load (.tmp 9) rfl rfl K9.out ?_
              refine ko hK ?_
              clear hK K
              refine wpAnyH_ready (rs := [8]) (by kernel_rfl) (by simp) ?_
              refine AllReadyH.cons rfl (fun K hK => ?_) AllReadyH.nil
              show (if Region.wanted ⟨some 45, .call _, _, _, _, none⟩ _ = true then Oper.wp _ ⟨some 45, .call _, _, _, _, none⟩ _ _ _ _ else _)
              go_simp
              refine (board_Board_Of.of_calls cs us _ _ _ _ g _ hl hul K1.out HB.out).mono ?_
              rintro e w7 ⟨rfl, hb⟩
              have nK1 := Aside0.mk (blk_below K1.out hb)
              have nK7 := Aside0.mk (blk_below K7.out hb)
              have nK8 := Aside0.mk (blk_below K8.out hb)
              have nK9 := Aside0.mk (blk_below K9.out hb)
              have nB := Aside0.mk (below_step KB.out hb)
              clear K1 K7 K8 K9 KB hb
              have K1 := nK1
              have K7 := nK7
              have K8 := nK8
              have K9 := nK9
              have KB := nB
              clear nK1 nK7 nK8 nK9 nB
              refine ko hK ?_
              clear hK K
              refine wpAnyH_ready (rs := [9]) (by kernel_rfl) (by simp) ?_
              refine AllReadyH.cons rfl (fun K hK => ?_) AllReadyH.nil
              show (if Region.wanted ⟨some 46, .call _, _, _, _, none⟩ _ = true then Oper.wp _ ⟨some 46, .call _, _, _, _, none⟩ _ _ _ _ else _)
              go_simp
              refine (set_Set_And.calls _ _ _ _ _ _ _ HC.out).mono ?_
              rintro e w7 ⟨rfl, hb⟩
              have nK1 := Aside0.mk (blk_below K1.out hb)
              have nK7 := Aside0.mk (blk_below K7.out hb)
              have nK8 := Aside0.mk (blk_below K8.out hb)
              have nK9 := Aside0.mk (blk_below K9.out hb)
              have nB := Aside0.mk (below_step KB.out hb)
              clear K1 K7 K8 K9 KB hb
              have K1 := nK1
              have K7 := nK7
              have K8 := nK8
              have K9 := nK9
              have KB := nB
              clear nK1 nK7 nK8 nK9 nB
              refine ko hK ?_
              clear hK K
              refine wpAnyH_ready (rs := [10]) (by kernel_rfl) (by simp) ?_
              refine AllReadyH.cons rfl (fun K hK => ?_) AllReadyH.nil
              show (if Region.wanted ⟨some 47, .call _, _, _, _, none⟩ _ = true then Oper.wp _ ⟨some 47, .call _, _, _, _, none⟩ _ _ _ _ else _)
              go_simp
              refine (set_Set_Or.calls _ _ _ _ _ _ _ HD.out).mono ?_
              rintro e w7 ⟨rfl, hb⟩
              have nK1 := Aside0.mk (blk_below K1.out hb)
              have nK7 := Aside0.mk (blk_below K7.out hb)
              have nK8 := Aside0.mk (blk_below K8.out hb)
              have nK9 := Aside0.mk (blk_below K9.out hb)
              have nB := Aside0.mk (below_step KB.out hb)
              clear K1 K7 K8 K9 KB hb
              have K1 := nK1
              have K7 := nK7
              have K8 := nK8
              have K9 := nK9
              have KB := nB
              clear nK1 nK7 nK8 nK9 nB
              refine ko hK ?_
              clear hK K
              refine wpAnyH_ready (rs := [11]) (by kernel_rfl) (by simp) ?_
              refine AllReadyH.cons rfl (fun K hK => ?_) AllReadyH.nil
              show (if Region.wanted ⟨none, .store 88 (.tmp 9) (.tmp 47), _, _, _, none⟩ _ = true then Oper.wp _ ⟨none, .store 88 (.tmp 9) (.tmp 47), _, _, _, none⟩ _ _ _ _ else _)
              rw [if_pos (by rfl)]
              refine s2_wp_store (.tmp 9) (.tmp 47) rfl rfl rfl rfl K9.out ?_
              intro W3 s1 s2
              have nK1 := Aside0.mk (s2.blk HN19.out K1.out)
              have nK7 := Aside0.mk (s2.blk HN79.out K7.out)
              have nK8 := Aside0.mk (s2.blk HN89.out K8.out)
              have nS := Aside0.mk s1
              have nB := Aside0.mk (s2.2.1 _ _ HGK9.out KB.out)
              clear K9 K1 K7 K8 KB s1 s2
              have K9 := nS
              have K1 := nK1
              have K7 := nK7
              have K8 := nK8
              have KB := nB
              clear nS nB nK1 nK7 nK8
              refine ko hK ?_
              clear hK K
              refine wpAnyH_done (by kernel_rfl) ?_ _
              go_wp2
              go_roundg g'
              case measure => omega
              case rel => exact ⟨n + 1, ba, bb, by simp, by omega, by omega, HE, K1, K7, K8, K9, KB, by omega⟩
            refine AllReadyH.cons rfl (fun K hK => ?_) AllReadyH.nil
            show (if Region.wanted ⟨some 45, .call _, _, _, _, none⟩ _ = true then Oper.wp _ ⟨some 45, .call _, _, _, _, none⟩ _ _ _ _ else _)
            go_simp
            refine (board_Board_Of.of_calls cs us _ _ _ _ g _ hl hul K1.out HB.out).mono ?_
            rintro e w7 ⟨rfl, hb⟩
            have nK1 := Aside0.mk (blk_below K1.out hb)
            have nK7 := Aside0.mk (blk_below K7.out hb)
            have nK8 := Aside0.mk (blk_below K8.out hb)
            have nK9 := Aside0.mk (blk_below K9.out hb)
            have nB := Aside0.mk (below_step KB.out hb)
            clear K1 K7 K8 K9 KB hb
            have K1 := nK1
            have K7 := nK7
            have K8 := nK8
            have K9 := nK9
            have KB := nB
            clear nK1 nK7 nK8 nK9 nB
            refine ko hK ?_
            clear hK K
            refine wpAnyH_ready (rs := [0, 9]) (by kernel_rfl) (by simp) ?_
            refine AllReadyH.cons rfl (fun K hK => ?_) ?_
            · show (if Region.wanted ⟨some 37, .load 88 (.tmp 9), _, _, _, none⟩ _ = true then Oper.wp _ ⟨some 37, .load 88 (.tmp 9), _, _, _, none⟩ _ _ _ _ else _)
              rw [if_pos (by rfl)]
              refine s2_wp_load (.tmp 9) rfl rfl K9.out ?_
              refine ko hK ?_
              clear hK K
              refine wpAnyH_ready (rs := [9]) (by kernel_rfl) (by simp) ?_
              refine AllReadyH.cons rfl (fun K hK => ?_) AllReadyH.nil
              show (if Region.wanted ⟨some 46, .call _, _, _, _, none⟩ _ = true then Oper.wp _ ⟨some 46, .call _, _, _, _, none⟩ _ _ _ _ else _)
              go_simp
              refine (set_Set_And.calls _ _ _ _ _ _ _ HC.out).mono ?_
              rintro e w7 ⟨rfl, hb⟩
              have nK1 := Aside0.mk (blk_below K1.out hb)
              have nK7 := Aside0.mk (blk_below K7.out hb)
              have nK8 := Aside0.mk (blk_below K8.out hb)
              have nK9 := Aside0.mk (blk_below K9.out hb)
              have nB := Aside0.mk (below_step KB.out hb)
              clear K1 K7 K8 K9 KB hb
              have K1 := nK1
              have K7 := nK7
              have K8 := nK8
              have K9 := nK9
              have KB := nB
              clear nK1 nK7 nK8 nK9 nB
              refine ko hK ?_
              clear hK K
              refine wpAnyH_ready (rs := [10]) (by kernel_rfl) (by simp) ?_
              refine AllReadyH.cons rfl (fun K hK => ?_) AllReadyH.nil
              show (if Region.wanted ⟨some 47, .call _, _, _, _, none⟩ _ = true then Oper.wp _ ⟨some 47, .call _, _, _, _, none⟩ _ _ _ _ else _)
              go_simp
              refine (set_Set_Or.calls _ _ _ _ _ _ _ HD.out).mono ?_
              rintro e w7 ⟨rfl, hb⟩
              have nK1 := Aside0.mk (blk_below K1.out hb)
              have nK7 := Aside0.mk (blk_below K7.out hb)
              have nK8 := Aside0.mk (blk_below K8.out hb)
              have nK9 := Aside0.mk (blk_below K9.out hb)
              have nB := Aside0.mk (below_step KB.out hb)
              clear K1 K7 K8 K9 KB hb
              have K1 := nK1
              have K7 := nK7
              have K8 := nK8
              have K9 := nK9
              have KB := nB
              clear nK1 nK7 nK8 nK9 nB
              refine ko hK ?_
              clear hK K
              refine wpAnyH_ready (rs := [11]) (by kernel_rfl) (by simp) ?_
              refine AllReadyH.cons rfl (fun K hK => ?_) AllReadyH.nil
              show (if Region.wanted ⟨none, .store 88 (.tmp 9) (.tmp 47), _, _, _, none⟩ _ = true then Oper.wp _ ⟨none, .store 88 (.tmp 9) (.tmp 47), _, _, _, none⟩ _ _ _ _ else _)
              rw [if_pos (by rfl)]
              refine s2_wp_store (.tmp 9) (.tmp 47) rfl rfl rfl rfl K9.out ?_
              intro W3 s1 s2
              have nK1 := Aside0.mk (s2.blk HN19.out K1.out)
              have nK7 := Aside0.mk (s2.blk HN79.out K7.out)
              have nK8 := Aside0.mk (s2.blk HN89.out K8.out)
              have nS := Aside0.mk s1
              have nB := Aside0.mk (s2.2.1 _ _ HGK9.out KB.out)
              clear K9 K1 K7 K8 KB s1 s2
              have K9 := nS
              have K1 := nK1
              have K7 := nK7
              have K8 := nK8
              have KB := nB
              clear nS nB nK1 nK7 nK8
              refine ko hK ?_
              clear hK K
              refine wpAnyH_done (by kernel_rfl) ?_ _
              go_wp2
              go_roundg g'
              case measure => omega
              case rel => exact ⟨n + 1, ba, bb, by simp, by omega, by omega, HE, K1, K7, K8, K9, KB, by omega⟩
            refine AllReadyH.cons rfl (fun K hK => ?_) AllReadyH.nil
            show (if Region.wanted ⟨some 46, .call _, _, _, _, none⟩ _ = true then Oper.wp _ ⟨some 46, .call _, _, _, _, none⟩ _ _ _ _ else _)
            go_simp
            refine (set_Set_And.calls _ _ _ _ _ _ _ HC.out).mono ?_
            rintro e w7 ⟨rfl, hb⟩
            have nK1 := Aside0.mk (blk_below K1.out hb)
            have nK7 := Aside0.mk (blk_below K7.out hb)
            have nK8 := Aside0.mk (blk_below K8.out hb)
            have nK9 := Aside0.mk (blk_below K9.out hb)
            have nB := Aside0.mk (below_step KB.out hb)
            clear K1 K7 K8 K9 KB hb
            have K1 := nK1
            have K7 := nK7
            have K8 := nK8
            have K9 := nK9
            have KB := nB
            clear nK1 nK7 nK8 nK9 nB
            refine ko hK ?_
            clear hK K
            refine wpAnyH_ready (rs := [0]) (by kernel_rfl) (by simp) ?_
            refine AllReadyH.cons rfl (fun K hK => ?_) AllReadyH.nil
            show (if Region.wanted ⟨some 37, .load 88 (.tmp 9), _, _, _, none⟩ _ = true then Oper.wp _ ⟨some 37, .load 88 (.tmp 9), _, _, _, none⟩ _ _ _ _ else _)
            rw [if_pos (by rfl)]
            refine s2_wp_load (.tmp 9) rfl rfl K9.out ?_
            refine ko hK ?_
            clear hK K
            refine wpAnyH_ready (rs := [10]) (by kernel_rfl) (by simp) ?_
            refine AllReadyH.cons rfl (fun K hK => ?_) AllReadyH.nil
            show (if Region.wanted ⟨some 47, .call _, _, _, _, none⟩ _ = true then Oper.wp _ ⟨some 47, .call _, _, _, _, none⟩ _ _ _ _ else _)
            go_simp
            refine (set_Set_Or.calls _ _ _ _ _ _ _ HD.out).mono ?_
            rintro e w7 ⟨rfl, hb⟩
            have nK1 := Aside0.mk (blk_below K1.out hb)
            have nK7 := Aside0.mk (blk_below K7.out hb)
            have nK8 := Aside0.mk (blk_below K8.out hb)
            have nK9 := Aside0.mk (blk_below K9.out hb)
            have nB := Aside0.mk (below_step KB.out hb)
            clear K1 K7 K8 K9 KB hb
            have K1 := nK1
            have K7 := nK7
            have K8 := nK8
            have K9 := nK9
            have KB := nB
            clear nK1 nK7 nK8 nK9 nB
            refine ko hK ?_
            clear hK K
            refine wpAnyH_ready (rs := [11]) (by kernel_rfl) (by simp) ?_
            refine AllReadyH.cons rfl (fun K hK => ?_) AllReadyH.nil
            show (if Region.wanted ⟨none, .store 88 (.tmp 9) (.tmp 47), _, _, _, none⟩ _ = true then Oper.wp _ ⟨none, .store 88 (.tmp 9) (.tmp 47), _, _, _, none⟩ _ _ _ _ else _)
            rw [if_pos (by rfl)]
            refine s2_wp_store (.tmp 9) (.tmp 47) rfl rfl rfl rfl K9.out ?_
            intro W3 s1 s2
            have nK1 := Aside0.mk (s2.blk HN19.out K1.out)
            have nK7 := Aside0.mk (s2.blk HN79.out K7.out)
            have nK8 := Aside0.mk (s2.blk HN89.out K8.out)
            have nS := Aside0.mk s1
            have nB := Aside0.mk (s2.2.1 _ _ HGK9.out KB.out)
            clear K9 K1 K7 K8 KB s1 s2
            have K9 := nS
            have K1 := nK1
            have K7 := nK7
            have K8 := nK8
            have KB := nB
            clear nS nB nK1 nK7 nK8
            refine ko hK ?_
            clear hK K
            refine wpAnyH_done (by kernel_rfl) ?_ _
            go_wp2
            go_roundg g'
            case measure => omega
            case rel => exact ⟨n + 1, ba, bb, by simp, by omega, by omega, HE, K1, K7, K8, K9, KB, by omega⟩
      )
def bits_TrailingZeros64.tab : List Int := [0, 1, 56, 2, 57, 49, 28, 3, 61, 58, 42, 50, 38, 29, 17, 4, 62, 47, 59, 36, 45, 43, 51, 22, 53, 39, 33, 30, 24, 18, 12, 5, 63, 55, 48, 27, 60, 41, 37, 16, 46, 35, 44, 21, 52, 32, 23, 11, 54, 26, 40, 15, 34, 20, 31, 10, 25, 14, 19, 9, 13, 8, 7, 6]
def bits_TrailingZeros64.Tab (w : World) : Prop := ∀ i : Nat, i < 64 → w.cell? ⟨6, i, none⟩ = some (.int .u8 (bits_TrailingZeros64.tab.getD i 0))
theorem bits_TrailingZeros64.Tab.below {w w' : World} (h : bits_TrailingZeros64.Tab w) (b : Below w.heap.size w w') : bits_TrailingZeros64.Tab w' := fun i hi => (b.cell (World.block_lt_of_cell? w _ (h i hi))).trans (h i hi)
def bits_TrailingZeros64.idx (a0 : Int) : Int := IntKind.u64.wrap (bits BinOp.and IntKind.u64 a0 (IntKind.u64.wrap (-a0)) * 285870213051353865) / 288230376151711744
theorem bits_TrailingZeros64.idx_rng (a0 : Int) : 0 ≤ bits_TrailingZeros64.idx a0 ∧ bits_TrailingZeros64.idx a0 < 64 := by
  unfold bits_TrailingZeros64.idx
  generalize bits BinOp.and IntKind.u64 a0 (IntKind.u64.wrap (-a0)) * 285870213051353865 = y
  have h : IntKind.u64.wrap y = y % 18446744073709551616 := IntKind.wrap_u64 y
  omega
def bits_TrailingZeros64.f (a0 : Int) : Option Int := if a0 = 0 then some 64 else some (bits_TrailingZeros64.tab.getD (bits_TrailingZeros64.idx a0).toNat 0)
theorem bits_TrailingZeros64.tab_rng : ∀ i : Nat, i < 64 → 0 ≤ bits_TrailingZeros64.tab.getD i 0 ∧ bits_TrailingZeros64.tab.getD i 0 < 64 := by decide +kernel
theorem bits_TrailingZeros64.calls (a0 : Int) (r : Int) (w : World) (hT : bits_TrailingZeros64.Tab w) (h : bits_TrailingZeros64.f a0 = some r) :
    Calls Tryz.prog 140 #[.int .u64 a0] w fun e w' => e = .returned (.int .i64 r) ∧ Drawn0 w w' := by
  unfold bits_TrailingZeros64.f at h
  by_cases h0 : a0 = 0
  · subst h0
    rw [if_pos rfl] at h
    obtain rfl := Option.some.inj h; clear h
    go_enter Tryz.func140, Tryz.ntmps140
    go_wp2
    go_ret
    exact ⟨rfl, by repeat (first | exact Drawn0.refl _ | apply Drawn0.step)⟩
  · rw [if_neg h0] at h
    have b0 : (a0 == 0) = false := by simpa using h0
    obtain rfl := Option.some.inj h; clear h
    have hr := bits_TrailingZeros64.idx_rng a0
    have hc := hT (bits_TrailingZeros64.idx a0).toNat (by omega)
    have hv := bits_TrailingZeros64.tab_rng (bits_TrailingZeros64.idx a0).toNat (by omega)
    generalize bits_TrailingZeros64.tab.getD (bits_TrailingZeros64.idx a0).toNat 0 = v at *
    have hw : IntKind.i64.wrap v = v := IntWalk.i64_in _ (by omega)
    have hr1 : (0 ≤ bits_TrailingZeros64.idx a0 ∧ bits_TrailingZeros64.idx a0 < 64) = True := eq_true hr
    obtain ⟨hr2, hr3⟩ := hr
    replace hr2 := eq_true hr2
    replace hr3 := eq_true hr3
    unfold bits_TrailingZeros64.idx at hc hr1 hr2 hr3
    clear hv h0 hT
    go_enter Tryz.func140, Tryz.ntmps140
    go_wp2
    go_ret
    exact ⟨rfl, by repeat (first | exact Drawn0.refl _ | apply Drawn0.step)⟩
def set_Set_First.f (a0_0 : Int) (a0_1 : Int) : Option (Int) := if a0_0 = 0 then (if a0_1 = 0 then (some (-1)) else ((bits_TrailingZeros64.f a0_1).bind fun t228 => (some (wrap64 (63 + t228))))) else ((bits_TrailingZeros64.f a0_0).bind fun t229 => (some t229))
set_option maxHeartbeats 8000000 in
set_option maxRecDepth 100000 in
theorem set_Set_First.calls (a0_0 : Int) (a0_1 : Int) (r : Int) (w : World) (hT : bits_TrailingZeros64.Tab w) (h : set_Set_First.f a0_0 a0_1 = some r) :
    Calls Tryz.prog 121 #[.agg #[.int .u64 a0_0, .int .u64 a0_1]] w fun e w' => e = .returned (.int .i64 r) ∧ Below w.heap.size w w' := by
  have hu88 := Tryz.underlying88
  have HB := Aside0.mk (Below.refl w.heap.size w)
  have H : (if a0_0 = 0 then (if a0_1 = 0 then (some (-1)) else ((bits_TrailingZeros64.f a0_1).bind fun t228 => (some (wrap64 (63 + t228))))) else ((bits_TrailingZeros64.f a0_0).bind fun t229 => (some t229))) = some r := h
  clear h
  by_cases c2 : a0_0 = 0
  · rw [if_pos c2] at H
    have c2b0 : (a0_0 == 0) = true := beq_iff_eq.mpr c2
    have c2b1 : (a0_0 != 0) = false := bne_eq_false_iff_eq.mpr c2
    clear c2
    by_cases c3 : a0_1 = 0
    · rw [if_pos c3] at H
      have c3b0 : (a0_1 == 0) = true := beq_iff_eq.mpr c3
      have c3b1 : (a0_1 != 0) = false := bne_eq_false_iff_eq.mpr c3
      clear c3
      obtain rfl := Option.some.inj H
      go_enter Tryz.func121, Tryz.ntmps121
      go_wp2_with (first | ((with_reducible refine gate_dst (N := 1) rfl ?_); refine box_event ?hg (N := 1) ?hd (cs := #[.int .u64 a0_0, .int .u64 a0_1]) (t := 88) ?hr ?_; (case hd => rfl); (case hg => rfl); (case hr => first | (go_simp; done) | (go_simp; rfl)); intro gb227 hg w4 hbox hb; have n0_ := Aside0.mk (below_step (by repeat (first | (with_reducible first | exact HB.out | apply below_alloc | apply pw_below_drewN | apply below_drew1) | exact HB.out)) hb); have n1_ := Aside0.mk (hbox); have n2_ := Aside0.mk ((by rw [hg]; exact (below_size (by repeat (first | (with_reducible first | exact HB.out | apply below_alloc | apply pw_below_drewN | apply below_drew1) | exact HB.out))) : w.heap.size ≤ gb227)); have n3_ := Aside0.mk ((by rw [hg]; exact (below_size (by repeat (first | (with_reducible first | exact HB.out | apply below_alloc | apply pw_below_drewN | apply below_drew1) | exact HB.out))) : w.heap.size ≤ gb227)); clear HB; have HB := n0_; have BK227 := n1_; have GW227 := n2_; have GE227 := n3_; clear n0_ n1_ n2_ n3_; clear hb hbox hg; have hcz5_0 : w4.cell? ⟨gb227, 0, none⟩ = some (.int .u64 a0_0) := (blk_cell BK227.out 0).trans rfl; have hcz5_1 : w4.cell? ⟨gb227, 1, none⟩ = some (.int .u64 a0_1) := (blk_cell BK227.out 1).trans rfl; have hfz5_0 := blk_frozen BK227.out 0; have hfz5_1 := blk_frozen BK227.out 1))
      go_ret
      exact ⟨by first | rfl | (simp [errW_none, errW_some] <;> rfl) | (simp [*, errW_none, errW_some] <;> rfl) | (simp [*, errW_none, errW_some]; generalize ByteArray.toList _ = q_; cases q_ <;> rfl), by repeat (first | (with_reducible first | exact HB.out | apply below_alloc | apply pw_below_drewN | apply below_drew1 | refine below_set ?_ GE227.out) | exact HB.out)⟩
    · rw [if_neg c3] at H
      have c3b0 : (a0_1 == 0) = false := beq_eq_false_iff_ne.mpr c3
      have c3b1 : (a0_1 != 0) = true := bne_iff_ne.mpr c3
      replace H := Option.bind_eq_some_iff.mp H
      obtain ⟨t228, A60, H⟩ := H
      replace H : (some (wrap64 (63 + t228))) = some r := H
      have A6 := Aside0.mk A60
      clear A60
      obtain rfl := Option.some.inj H
      go_enter Tryz.func121, Tryz.ntmps121
      go_wp2_with (first | ((with_reducible refine gate_dst (N := 1) rfl ?_); refine box_event ?hg (N := 1) ?hd (cs := #[.int .u64 a0_0, .int .u64 a0_1]) (t := 88) ?hr ?_; (case hd => rfl); (case hg => rfl); (case hr => first | (go_simp; done) | (go_simp; rfl)); intro gb227 hg w7 hbox hb; have n0_ := Aside0.mk (below_step (by repeat (first | (with_reducible first | exact HB.out | apply below_alloc | apply pw_below_drewN | apply below_drew1) | exact HB.out)) hb); have n1_ := Aside0.mk (hbox); have n2_ := Aside0.mk ((by rw [hg]; exact (below_size (by repeat (first | (with_reducible first | exact HB.out | apply below_alloc | apply pw_below_drewN | apply below_drew1) | exact HB.out))) : w.heap.size ≤ gb227)); have n3_ := Aside0.mk ((by rw [hg]; exact (below_size (by repeat (first | (with_reducible first | exact HB.out | apply below_alloc | apply pw_below_drewN | apply below_drew1) | exact HB.out))) : w.heap.size ≤ gb227)); clear HB; have HB := n0_; have BK227 := n1_; have GW227 := n2_; have GE227 := n3_; clear n0_ n1_ n2_ n3_; clear hb hbox hg; have hcz8_0 : w7.cell? ⟨gb227, 0, none⟩ = some (.int .u64 a0_0) := (blk_cell BK227.out 0).trans rfl; have hcz8_1 : w7.cell? ⟨gb227, 1, none⟩ = some (.int .u64 a0_1) := (blk_cell BK227.out 1).trans rfl; have hfz8_0 := blk_frozen BK227.out 0; have hfz8_1 := blk_frozen BK227.out 1) | ((with_reducible refine gate_callee (f := 140) rfl ?_); refine goesL_ (some 16) rfl rfl Tryz.func140 (by kernel_rfl) rfl #[.int .u64 a0_1] rfl (by (try simp only [List.map_toArray, List.map_cons, List.map_nil]); first | done | rfl | (simp only [List.length_drop, List.length_take]; rfl)) ?_; (with_reducible refine (bits_TrailingZeros64.calls a0_1 t228 _ (by exact hT.below (by repeat (first | (with_reducible first | exact HB.out | apply below_alloc | apply pw_below_drewN | apply below_drew1) | exact HB.out))) A6.out).mono ?_); rintro e w' ⟨rfl, ⟨nd, rfl⟩⟩; refine ⟨_, rfl, ?_⟩))
      go_ret
      exact ⟨by first | rfl | (simp [errW_none, errW_some] <;> rfl) | (simp [*, errW_none, errW_some] <;> rfl) | (simp [*, errW_none, errW_some]; generalize ByteArray.toList _ = q_; cases q_ <;> rfl), by repeat (first | (with_reducible first | exact HB.out | apply below_alloc | apply pw_below_drewN | apply below_drew1 | refine below_set ?_ GE227.out) | exact HB.out)⟩
  · rw [if_neg c2] at H
    have c2b0 : (a0_0 == 0) = false := beq_eq_false_iff_ne.mpr c2
    have c2b1 : (a0_0 != 0) = true := bne_iff_ne.mpr c2
    replace H := Option.bind_eq_some_iff.mp H
    obtain ⟨t229, A90, H⟩ := H
    replace H : (some t229) = some r := H
    have A9 := Aside0.mk A90
    clear A90
    obtain rfl := Option.some.inj H
    go_enter Tryz.func121, Tryz.ntmps121
    go_wp2_with (first | ((with_reducible refine gate_dst (N := 1) rfl ?_); refine box_event ?hg (N := 1) ?hd (cs := #[.int .u64 a0_0, .int .u64 a0_1]) (t := 88) ?hr ?_; (case hd => rfl); (case hg => rfl); (case hr => first | (go_simp; done) | (go_simp; rfl)); intro gb227 hg w10 hbox hb; have n0_ := Aside0.mk (below_step (by repeat (first | (with_reducible first | exact HB.out | apply below_alloc | apply pw_below_drewN | apply below_drew1) | exact HB.out)) hb); have n1_ := Aside0.mk (hbox); have n2_ := Aside0.mk ((by rw [hg]; exact (below_size (by repeat (first | (with_reducible first | exact HB.out | apply below_alloc | apply pw_below_drewN | apply below_drew1) | exact HB.out))) : w.heap.size ≤ gb227)); have n3_ := Aside0.mk ((by rw [hg]; exact (below_size (by repeat (first | (with_reducible first | exact HB.out | apply below_alloc | apply pw_below_drewN | apply below_drew1) | exact HB.out))) : w.heap.size ≤ gb227)); clear HB; have HB := n0_; have BK227 := n1_; have GW227 := n2_; have GE227 := n3_; clear n0_ n1_ n2_ n3_; clear hb hbox hg; have hcz11_0 : w10.cell? ⟨gb227, 0, none⟩ = some (.int .u64 a0_0) := (blk_cell BK227.out 0).trans rfl; have hcz11_1 : w10.cell? ⟨gb227, 1, none⟩ = some (.int .u64 a0_1) := (blk_cell BK227.out 1).trans rfl; have hfz11_0 := blk_frozen BK227.out 0; have hfz11_1 := blk_frozen BK227.out 1) | ((with_reducible refine gate_callee (f := 140) rfl ?_); refine goesL_ (some 9) rfl rfl Tryz.func140 (by kernel_rfl) rfl #[.int .u64 a0_0] rfl (by (try simp only [List.map_toArray, List.map_cons, List.map_nil]); first | done | rfl | (simp only [List.length_drop, List.length_take]; rfl)) ?_; (with_reducible refine (bits_TrailingZeros64.calls a0_0 t229 _ (by exact hT.below (by repeat (first | (with_reducible first | exact HB.out | apply below_alloc | apply pw_below_drewN | apply below_drew1) | exact HB.out))) A9.out).mono ?_); rintro e w' ⟨rfl, ⟨nd, rfl⟩⟩; refine ⟨_, rfl, ?_⟩))
    go_ret
    exact ⟨by first | rfl | (simp [errW_none, errW_some] <;> rfl) | (simp [*, errW_none, errW_some] <;> rfl) | (simp [*, errW_none, errW_some]; generalize ByteArray.toList _ = q_; cases q_ <;> rfl), by repeat (first | (with_reducible first | exact HB.out | apply below_alloc | apply pw_below_drewN | apply below_drew1 | refine below_set ?_ GE227.out) | exact HB.out)⟩
def board_Board_King.f (side : Int) (us : List Int) : Option Int := (board_Board_Of.f side 8 us).bind fun o => set_Set_First.f o.1 o.2
set_option maxRecDepth 100000 in
set_option maxHeartbeats 16000000 in
theorem board_Board_King.king_calls (cs us : List Int) (side r : Int) (g : Nat) (w : World) (hT : bits_TrailingZeros64.Tab w) (hl : cs.length = 98) (hul : us.length = 68) (hb : w.heap[g]? = some (.cells (bd cs us) 93 (0, 0))) (h : board_Board_King.f side us = some r) :
    Calls Tryz.prog 96 #[.pointer (some ⟨g, 0, none⟩), .int .i64 side] w fun e w' => e = .returned (.int .i64 r) ∧ Below w.heap.size w w' := by
  unfold board_Board_King.f at h
  obtain ⟨⟨u, v⟩, h1, h2⟩ := Option.bind_eq_some_iff.mp h
  have H1 := Aside0.mk h1
  have H2 := Aside0.mk h2
  have K1 := Aside0.mk hb
  have KT := Aside0.mk hT
  have KB := Aside0.mk (Below.refl w.heap.size w)
  clear h h1 h2 hb hT
  go_enter Tryz.func96, Tryz.ntmps96
  go_wp2_with (first | (go_at_call 91; refine (board_Board_Of.of_calls cs us side 8 u v g _ hl hul K1.out H1.out).mono ?_; rintro e w7 ⟨rfl, hb⟩; have nK1 := Aside0.mk (blk_below K1.out hb); have nB := Aside0.mk (below_step KB.out hb); have nT := Aside0.mk (KT.out.below hb); clear K1 KB KT hb; have K1 := nK1; have KB := nB; have KT := nT; clear nK1 nB nT) | (go_at_call 121; refine (set_Set_First.calls u v r _ KT.out H2.out).mono ?_; rintro e w7 ⟨rfl, hb⟩; have nK1 := Aside0.mk (blk_below K1.out hb); have nB := Aside0.mk (below_step KB.out hb); have nT := Aside0.mk (KT.out.below hb); clear K1 KB KT hb; have K1 := nK1; have KB := nB; have KT := nT; clear nK1 nB nT))
  go_ret
  exact ⟨rfl, KB.out⟩
end Go.Proofs.YtigenhbmgpfffaaGreatDoor.Pa
