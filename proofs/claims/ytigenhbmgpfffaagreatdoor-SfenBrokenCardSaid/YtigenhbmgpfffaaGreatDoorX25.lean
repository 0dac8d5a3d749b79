import Derived.Test.YtigenhbmgpfffaaGreatDoorX13
import Derived.Test.YtigenhbmgpfffaaGreatDoorX14
import Derived.Test.YtigenhbmgpfffaaGreatDoorX16
import Derived.Test.YtigenhbmgpfffaaGreatDoorX18
import Derived.Test.YtigenhbmgpfffaaGreatDoorX22
import Derived.Test.YtigenhbmgpfffaaGreatDoorX24
namespace Go.Proofs.YtigenhbmgpfffaaGreatDoor.Pa
open Go.RowKit Go.Proofs.YtigenhbmgpfffaaGreatDoorW.PrintWords Go.Proofs.YtigenhbmgpfffaaGreatDoorW.PrintLast Go.Proofs.YtigenhbmgpfffaaGreatDoorW.PrintMore
attribute [local go_sem] max2_int min2_int max_two min_two max_three min_three max_four min_four
set_option linter.unusedVariables false
set_option linter.unusedSimpArgs false
def board_Board_Taken.f (us : List Int) : Option (Int × Int) := set_Set_Or.f (bget us 32).1 (bget us 32).2 (bget us 33).1 (bget us 33).2
set_option maxRecDepth 100000 in
set_option maxHeartbeats 16000000 in
theorem board_Board_Taken.taken_calls (cs us : List Int) (u v : Int) (g : Nat) (w : World) (hl : cs.length = 98) (hul : us.length = 68) (hb : w.heap[g]? = some (.cells (bd cs us) 93 (0, 0))) (h : board_Board_Taken.f us = some (u, v)) :
    Calls Tryz.prog 97 #[.pointer (some ⟨g, 0, none⟩)] w fun e w' => e = .returned (.agg (sv u v)) ∧ Below w.heap.size w w' := by
  have hz := s2_zero
  unfold board_Board_Taken.f at h
  have H1 := Aside0.mk h
  have K1 : Aside0 ((w.alloc (Obj.cells (sv 0 0) 88)).heap[g]? = some (.cells (bd cs us) 93 (0, 0))) := ⟨blk_alloc hb _⟩
  have K2 : Aside0 ((w.alloc (Obj.cells (sv 0 0) 88)).heap[w.heap.size]? = some (.cells (sv 0 0) 88 (0, 0))) := ⟨blk_new w _⟩
  have HN := Aside0.mk (Nat.ne_of_lt (blk_lt hb))
  have KB : Aside0 (Below w.heap.size w (w.alloc (Obj.cells (sv 0 0) 88))) := ⟨below_alloc (Below.refl _ _) _⟩
  clear hb h
  go_enter Tryz.func97, Tryz.ntmps97
  go_upto_region 1 with (fail)
  generalize w.alloc (Obj.cells (sv 0 0) 88) = W at *
  go_cut [] (fun wx => Aside0 (wx.heap[w.heap.size]? = some (.cells (sv u v) 88 (0, 0))) ∧ Aside0 (Below w.heap.size w wx))
  case first =>
    refine wp_region_held_drew (S := fun _ => True) (by kernel_rfl) trivial (fun _ => ?_)
    have nK1 := Aside0.mk (blk_drew K1.out)
    have nK2 := Aside0.mk (blk_drew K2.out)
    have nB := Aside0.mk (below_drew KB.out)
    clear K1 K2 KB
    have K1 := nK1
    have K2 := nK2
    have KB := nB
    clear nK1 nK2 nB
    refine tk 0 ?_
    refine tk 1 ?_
    refine tk 2 ?_
    refine tk 3 ?_
    refine tk 5 ?_
    refine tk 6 ?_
    refine tk 7 ?_
    refine tk 8 ?_
    refine wpAnyH_ready (rs := [4, 9]) (by kernel_rfl) (by simp) ?_
    refine AllReadyH.cons rfl (fun K hK => ?_) ?_
    · show (if Region.wanted ⟨some 7, .load 88 (.tmp 6), _, _, _, none⟩ _ = true then Oper.wp _ ⟨some 7, .load 88 (.tmp 6), _, _, _, none⟩ _ _ _ _ else _)
      rw [if_pos (by rfl)]
      refine bd_wp_load (.tmp 6) rfl (i := 32) rfl hl K1.out (by omega) ?_
      refine ko hK ?_
      clear hK K
      refine wpAnyH_ready (rs := [9]) (by kernel_rfl) (by simp) ?_
      refine AllReadyH.cons rfl (fun K hK => ?_) AllReadyH.nil
      show (if Region.wanted ⟨some 12, .load 88 (.tmp 11), _, _, _, none⟩ _ = true then Oper.wp _ ⟨some 12, .load 88 (.tmp 11), _, _, _, none⟩ _ _ _ _ else _)
      rw [if_pos (by rfl)]
      refine bd_wp_load (.tmp 11) rfl (i := 33) rfl hl K1.out (by omega) ?_
      refine ko hK ?_
      clear hK K
      refine wpAnyH_ready (rs := [10]) (by kernel_rfl) (by simp) ?_
      refine AllReadyH.cons rfl (fun K hK => ?_) AllReadyH.nil
      show (if Region.wanted ⟨some 13, .call _, _, _, _, none⟩ _ = true then Oper.wp _ ⟨some 13, .call _, _, _, _, none⟩ _ _ _ _ else _)
      go_simp
      refine (set_Set_Or.calls _ _ _ _ _ _ _ H1.out).mono ?_
      rintro e w7 ⟨rfl, hb⟩
      have nK1 := Aside0.mk (blk_below K1.out hb)
      have nK2 := Aside0.mk (blk_below K2.out hb)
      have nB := Aside0.mk (below_step KB.out hb)
      clear K1 K2 KB hb
      have K1 := nK1
      have K2 := nK2
      have KB := nB
      clear nK1 nK2 nB
      refine ko hK ?_
      clear hK K
      refine wpAnyH_ready (rs := [11]) (by kernel_rfl) (by simp) ?_
      refine AllReadyH.cons rfl (fun K hK => ?_) AllReadyH.nil
      show (if Region.wanted ⟨none, .store 88 (.tmp 2) (.tmp 13), _, _, _, none⟩ _ = true then Oper.wp _ ⟨none, .store 88 (.tmp 2) (.tmp 13), _, _, _, none⟩ _ _ _ _ else _)
      rw [if_pos (by rfl)]
      refine s2_wp_store (.tmp 2) (.tmp 13) rfl rfl rfl rfl K2.out ?_
      intro W3 s1 s2
      have nK1 := Aside0.mk (s2.blk HN.out K1.out)
      have nS := Aside0.mk s1
      have nB := Aside0.mk (s2.2.1 _ _ (Nat.le_refl _) KB.out)
      clear K2 K1 KB s1 s2
      have K2 := nS
      have K1 := nK1
      have KB := nB
      clear nS nB nK1
      refine ko hK ?_
      clear hK K
      refine wpAnyH_done (by kernel_rfl) ?_ _
      go_wp2
      go_meet
      exact ⟨K2, KB⟩
    refine AllReadyH.cons rfl (fun K hK => ?_) AllReadyH.nil
    show (if Region.wanted ⟨some 12, .load 88 (.tmp 11), _, _, _, none⟩ _ = true then Oper.wp _ ⟨some 12, .load 88 (.tmp 11), _, _, _, none⟩ _ _ _ _ else _)
    rw [if_pos (by rfl)]
    refine bd_wp_load (.tmp 11) rfl (i := 33) rfl hl K1.out (by omega) ?_
    refine ko hK ?_
    clear hK K
    refine wpAnyH_ready (rs := [4]) (by kernel_rfl) (by simp) ?_
    refine AllReadyH.cons rfl (fun K hK => ?_) AllReadyH.nil
    show (if Region.wanted ⟨some 7, .load 88 (.tmp 6), _, _, _, none⟩ _ = true then Oper.wp _ ⟨some 7, .load 88 (.tmp 6), _, _, _, none⟩ _ _ _ _ else _)
    rw [if_pos (by rfl)]
    refine bd_wp_load (.tmp 6) rfl (i := 32) rfl hl K1.out (by omega) ?_
    refine ko hK ?_
    clear hK K
    refine wpAnyH_ready (rs := [10]) (by kernel_rfl) (by simp) ?_
    refine AllReadyH.cons rfl (fun K hK => ?_) AllReadyH.nil
    show (if Region.wanted ⟨some 13, .call _, _, _, _, none⟩ _ = true then Oper.wp _ ⟨some 13, .call _, _, _, _, none⟩ _ _ _ _ else _)
    go_simp
    refine (set_Set_Or.calls _ _ _ _ _ _ _ H1.out).mono ?_
    rintro e w7 ⟨rfl, hb⟩
    have nK1 := Aside0.mk (blk_below K1.out hb)
    have nK2 := Aside0.mk (blk_below K2.out hb)
    have nB := Aside0.mk (below_step KB.out hb)
    clear K1 K2 KB hb
    have K1 := nK1
    have K2 := nK2
    have KB := nB
    clear nK1 nK2 nB
    refine ko hK ?_
    clear hK K
    refine wpAnyH_ready (rs := [11]) (by kernel_rfl) (by simp) ?_
    refine AllReadyH.cons rfl (fun K hK => ?_) AllReadyH.nil
    show (if Region.wanted ⟨none, .store 88 (.tmp 2) (.tmp 13), _, _, _, none⟩ _ = true then Oper.wp _ ⟨none, .store 88 (.tmp 2) (.tmp 13), _, _, _, none⟩ _ _ _ _ else _)
    rw [if_pos (by rfl)]
    refine s2_wp_store (.tmp 2) (.tmp 13) rfl rfl rfl rfl K2.out ?_
    intro W3 s1 s2
    have nK1 := Aside0.mk (s2.blk HN.out K1.out)
    have nS := Aside0.mk s1
    have nB := Aside0.mk (s2.2.1 _ _ (Nat.le_refl _) KB.out)
    clear K2 K1 KB s1 s2
    have K2 := nS
    have K1 := nK1
    have KB := nB
    clear nS nB nK1
    refine ko hK ?_
    clear hK K
    refine wpAnyH_done (by kernel_rfl) ?_ _
    go_wp2
    go_meet
    exact ⟨K2, KB⟩
  case rest =>
    clear K1 K2 KB
    obtain ⟨K2, KB⟩ := hcut
    go_wp2
    refine bodyPost_ret (s2_results (p := 2) rfl rfl K2.out) rfl ?_
    exact ⟨rfl, KB.out⟩
def attack_Checkers.f (side : Int) (us : List Int) : Option (Int × Int) := (board_Board_King.f side us).bind fun k => (board_Board_Taken.f us).bind fun t => attack_On.f k (wrap64 (1 - side)) t.1 t.2 us
set_option maxRecDepth 100000 in
set_option maxHeartbeats 16000000 in
theorem attack_Checkers.checkers_calls (cs us : List Int) (side u v : Int) (g : Nat) (w : World) (hT : bits_TrailingZeros64.Tab w) (hl : cs.length = 98) (hul : us.length = 68) (hs : wrap64 (1 - side) = 0 ∨ wrap64 (1 - side) = 1) (hb : w.heap[g]? = some (.cells (bd cs us) 93 (0, 0))) (h : attack_Checkers.f side us = some (u, v)) :
    Calls Tryz.prog 65 #[.pointer (some ⟨g, 0, none⟩), .int .i64 side] w fun e w' => e = .returned (.agg (sv u v)) ∧ Below w.heap.size w w' := by
  have hz := s2_zero
  unfold attack_Checkers.f at h
  obtain ⟨k, h1, h2⟩ := Option.bind_eq_some_iff.mp h
  obtain ⟨⟨ta, tb⟩, h3, h4⟩ := Option.bind_eq_some_iff.mp h2
  have H1 := Aside0.mk h1
  have H3 := Aside0.mk h3
  have H4 := Aside0.mk h4
  have HS := Aside0.mk hs
  have K1 : Aside0 ((w.alloc (Obj.cells (sv 0 0) 88)).heap[g]? = some (.cells (bd cs us) 93 (0, 0))) := ⟨blk_alloc hb _⟩
  have K2 : Aside0 ((w.alloc (Obj.cells (sv 0 0) 88)).heap[w.heap.size]? = some (.cells (sv 0 0) 88 (0, 0))) := ⟨blk_new w _⟩
  have KB : Aside0 (Below w.heap.size w (w.alloc (Obj.cells (sv 0 0) 88))) := ⟨below_alloc (Below.refl _ _) _⟩
  have KT := Aside0.mk (hT.below KB.out)
  clear hb h h1 h2 h3 h4 hs hT
  go_enter Tryz.func65, Tryz.ntmps65
  go_upto_region 1 with (fail)
  generalize w.alloc (Obj.cells (sv 0 0) 88) = W at *
  go_wp2_with (first | (go_at_call 96; refine (board_Board_King.king_calls cs us side k g _ KT.out hl hul K1.out H1.out).mono ?_; rintro e w7 ⟨rfl, hb⟩; have nK1 := Aside0.mk (blk_below K1.out hb); have nK2 := Aside0.mk (blk_below K2.out hb); have nB := Aside0.mk (below_step KB.out hb); have nT := Aside0.mk (KT.out.below hb); clear K1 K2 KB KT hb; have K1 := nK1; have K2 := nK2; have KB := nB; have KT := nT; clear nK1 nK2 nB nT) | (go_at_call 97; refine (board_Board_Taken.taken_calls cs us ta tb g _ hl hul K1.out H3.out).mono ?_; rintro e w7 ⟨rfl, hb⟩; have nK1 := Aside0.mk (blk_below K1.out hb); have nK2 := Aside0.mk (blk_below K2.out hb); have nB := Aside0.mk (below_step KB.out hb); have nT := Aside0.mk (KT.out.below hb); clear K1 K2 KB KT hb; have K1 := nK1; have K2 := nK2; have KB := nB; have KT := nT; clear nK1 nK2 nB nT) | (go_at_call 95; refine (attack_On.on_calls cs us k (wrap64 (1 - side)) ta tb u v g _ hl hul HS.out K1.out H4.out).mono ?_; rintro e w7 ⟨rfl, hb⟩; have nK1 := Aside0.mk (blk_below K1.out hb); have nK2 := Aside0.mk (blk_below K2.out hb); have nB := Aside0.mk (below_step KB.out hb); have nT := Aside0.mk (KT.out.below hb); clear K1 K2 KB KT hb; have K1 := nK1; have K2 := nK2; have KB := nB; have KT := nT; clear nK1 nK2 nB nT) | ((with_reducible refine gate_store (t := 88) (p := 4) (v := .tmp 13) rfl ?_); refine s2_store rfl (.tmp 4) (.tmp 13) rfl rfl rfl rfl K2.out ?_; intro W3 s1 s2; have n2 := Aside0.mk s1; have nB := Aside0.mk (s2.2.1 _ _ (Nat.le_refl _) KB.out); clear K1 K2 KB s1 s2; have K2 := n2; have KB := nB; clear n2 nB))
  refine bodyPost_ret (s2_results (p := 4) rfl rfl K2.out) rfl ?_
  exact ⟨rfl, KB.out⟩
def attack_InCheck.f (side : Int) (us : List Int) : Option Bool := (attack_Checkers.f side us).bind fun c => (set_Set_Empty.f c.1 c.2).bind fun e => some (!e)
set_option maxRecDepth 100000 in
set_option maxHeartbeats 16000000 in
theorem attack_InCheck.incheck_calls (cs us : List Int) (side : Int) (r : Bool) (g : Nat) (w : World) (hT : bits_TrailingZeros64.Tab w) (hl : cs.length = 98) (hul : us.length = 68) (hs : wrap64 (1 - side) = 0 ∨ wrap64 (1 - side) = 1) (hb : w.heap[g]? = some (.cells (bd cs us) 93 (0, 0))) (h : attack_InCheck.f side us = some r) :
    Calls Tryz.prog 44 #[.pointer (some ⟨g, 0, none⟩), .int .i64 side] w fun e w' => e = .returned (.bool r) ∧ Below w.heap.size w w' := by
  unfold attack_InCheck.f at h
  obtain ⟨⟨u, v⟩, h1, h2⟩ := Option.bind_eq_some_iff.mp h
  obtain ⟨e, h3, h4⟩ := Option.bind_eq_some_iff.mp h2
  obtain rfl := Option.some.inj h4
  have H1 := Aside0.mk h1
  have H3 := Aside0.mk h3
  have HS := Aside0.mk hs
  have K1 := Aside0.mk hb
  have KT := Aside0.mk hT
  have KB := Aside0.mk (Below.refl w.heap.size w)
  clear hb h h1 h2 h3 h4 hs hT
  go_enter Tryz.func44, Tryz.ntmps44
  go_wp2_with (first | (go_at_call 65; refine (attack_Checkers.checkers_calls cs us side u v g _ KT.out hl hul HS.out K1.out H1.out).mono ?_; rintro e w7 ⟨rfl, hb⟩; have nK1 := Aside0.mk (blk_below K1.out hb); have nB := Aside0.mk (below_step KB.out hb); have nT := Aside0.mk (KT.out.below hb); clear K1 KB KT hb; have K1 := nK1; have KB := nB; have KT := nT; clear nK1 nB nT) | (go_at_call 66; refine (set_Set_Empty.calls u v e _ H3.out).mono ?_; rintro e w7 ⟨rfl, hb⟩; have nK1 := Aside0.mk (blk_below K1.out hb); have nB := Aside0.mk (below_step KB.out hb); have nT := Aside0.mk (KT.out.below hb); clear K1 KB KT hb; have K1 := nK1; have KB := nB; have KT := nT; clear nK1 nB nT))
  go_ret
  exact ⟨rfl, KB.out⟩
def attack_Check.f (cs : List Int) : Option Int := (board_Check.f cs).bind fun e => if e = 0 then (board_New.f cs).bind fun b => (attack_InCheck.f (wrap64 (1 - wrap64 (cs.getD 97 0))) b.2).bind fun c => some (if c = true then 54 else 0) else some e
theorem attack_Check.side (cs : List Int) (h : board_Check.f cs = some 0) : cs.getD 97 0 = 0 ∨ cs.getD 97 0 = 1 := by
  unfold board_Check.f at h
  by_cases hS : cs.getD 97 0 ≠ 0 ∧ cs.getD 97 0 ≠ 1
  · rw [if_pos hS] at h
    exact absurd (Option.some.inj h) (by decide)
  · by_cases h0 : cs.getD 97 0 = 0
    · exact .inl h0
    · refine .inr ?_
      by_cases h1 : cs.getD 97 0 = 1
      · exact h1
      · exact absurd ⟨h0, h1⟩ hS
theorem attack_Check.side0 (cs : List Int) (h : attack_Check.f cs = some 0) : cs.getD 97 0 = 0 ∨ cs.getD 97 0 = 1 := by
  unfold attack_Check.f at h
  obtain ⟨e0, h1, h2⟩ := Option.bind_eq_some_iff.mp h
  by_cases he : e0 = 0
  · subst he
    exact attack_Check.side cs h1
  · rw [if_neg he] at h2
    exact absurd (Option.some.inj h2) he
set_option maxRecDepth 100000 in
set_option maxHeartbeats 16000000 in
theorem attack_Check.check_calls (cs : List Int) (r : Int) (w : World) (hT : bits_TrailingZeros64.Tab w) (hl : cs.length = 98) (h : attack_Check.f cs = some r) :
    Calls Tryz.prog 19 #[.agg (value_Of.pv cs)] w fun e w' => e = .returned (.int .i64 r) ∧ Below w.heap.size w w' := by
  unfold attack_Check.f at h
  obtain ⟨e0, h1, h2⟩ := Option.bind_eq_some_iff.mp h
  have H1 := Aside0.mk h1
  have B1 : (w.alloc (Obj.cells (value_Of.pv cs) 28)).heap[w.heap.size]? = some (.cells (value_Of.pv cs) 28 (0, 0)) := blk_new w _
  have BB : Below w.heap.size w (w.alloc (Obj.cells (value_Of.pv cs) 28)) := below_alloc (Below.refl _ _) _
  have BT := hT.below BB
  clear h hT
  go_enter Tryz.func19, Tryz.ntmps19
  go_upto_region 1 with (fail)
  generalize w.alloc (Obj.cells (value_Of.pv cs) 28) = W at *
  have K1 := Aside0.mk B1
  have KB := Aside0.mk BB
  have KT := Aside0.mk BT
  clear B1 BB BT
  by_cases he : e0 = 0
  · subst he
    rw [if_pos rfl] at h2
    obtain ⟨⟨C, U⟩, h3, h4⟩ := Option.bind_eq_some_iff.mp h2
    obtain ⟨c, h5, h6⟩ := Option.bind_eq_some_iff.mp h4
    have hsd := attack_Check.side cs h1
    clear h1 h2 h4
    obtain ⟨sd, hs⟩ : ∃ sd, sd = cs.getD 97 0 := ⟨_, rfl⟩
    have HSD : Aside0 (cs.getD 97 0 = sd) := ⟨hs.symm⟩
    rw [← hs] at hsd h5
    have HW : Aside0 (wrap64 (1 - wrap64 (1 - wrap64 sd)) = 0 ∨ wrap64 (1 - wrap64 (1 - wrap64 sd)) = 1) := ⟨by rcases hsd with h | h <;> rw [h] <;> unfold wrap64 <;> omega⟩
    have HN := Aside0.mk h3
    have HI := Aside0.mk h5
    clear h3 h5 hs hsd
    go_upto_region 4 with (first | ((with_reducible refine gate_dst (N := 4) rfl ?_); refine value_Of.load rfl 28 (.tmp 1) rfl rfl K1.out Tryz.underlying28 rfl value_Of.infoP (by omega) ?_; rw [show (cs.drop 0).take 98 = cs by rw [List.drop_zero, List.take_of_length_le (by omega)]]) | (go_at_call 43; refine (board_Check.check_calls cs _ _ hl H1.out).mono ?_; rintro e w7 ⟨rfl, hb⟩; have nK1 := Aside0.mk (blk_below K1.out hb); have nB := Aside0.mk (below_step KB.out hb); have nT := Aside0.mk (KT.out.below hb); clear K1 KB KT hb; have K1 := nK1; have KB := nB; have KT := nT; clear nK1 nB nT))
    cases c
    · obtain rfl : 0 = r := Option.some.inj h6
      clear h6
      go_cut [15] (fun s15 wx => s15 = .bool false ∧ Aside0 (Below w.heap.size w wx))
      case first =>
        refine wp_region_held_drew (S := fun _ => True) (by kernel_rfl) trivial (fun _ => ?_)
        have n1 := Aside0.mk (blk_drew K1.out)
        have nB := Aside0.mk (below_drew KB.out)
        have nT := Aside0.mk (KT.out.below (below_drew (Below.refl _ _)))
        clear K1 KB KT
        have K1 := n1
        have KB := nB
        have KT := nT
        clear n1 nB nT
        refine tk 2 ?_
        refine wpAnyH_ready (rs := [0, 3]) (by kernel_rfl) (by simp) ?_
        refine AllReadyH.cons rfl (fun K hK => ?_) ?_
        · show (if Region.wanted ⟨some 9, .load 28 (.tmp 1), _, _, _, none⟩ _ = true then Oper.wp _ ⟨some 9, .load 28 (.tmp 1), _, _, _, none⟩ _ _ _ _ else _)
          rw [if_pos (by rfl)]
          refine value_Of.wp_load 28 (.tmp 1) rfl rfl K1.out Tryz.underlying28 rfl value_Of.infoP (by omega) ?_
          rw [show (cs.drop 0).take 98 = cs by rw [List.drop_zero, List.take_of_length_le (by omega)]]
          refine ko hK ?_
          clear hK K
          refine wpAnyH_ready (rs := [1, 3]) (by kernel_rfl) (by simp) ?_
          refine AllReadyH.cons rfl (fun K hK => ?_) ?_
          · show (if Region.wanted ⟨some 10, .call _, _, _, _, none⟩ _ = true then Oper.wp _ ⟨some 10, .call _, _, _, _, none⟩ _ _ _ _ else _)
            go_simp
            refine (board_New.new_calls cs C U _ hl HN.out).mono ?_
            rintro e w7 ⟨g, rfl, hgg, hk2, hC, hU, hb⟩
            have HC := Aside0.mk hC
            have HU := Aside0.mk hU
            have K2 := Aside0.mk hk2
            clear hk2 hC hU hgg
            have nK1 := Aside0.mk (blk_below K1.out hb)
            have nB := Aside0.mk (below_step KB.out hb)
            have nT := Aside0.mk (KT.out.below hb)
            clear K1 KB KT hb
            have K1 := nK1
            have KB := nB
            have KT := nT
            clear nK1 nB nT
            refine ko hK ?_
            clear hK K
            refine wpAnyH_ready (rs := [3]) (by kernel_rfl) (by simp) ?_
            refine AllReadyH.cons rfl (fun K hK => ?_) AllReadyH.nil
            show (if Region.wanted ⟨some 12, .load _ _, _, _, _, none⟩ _ = true then Oper.wp _ ⟨some 12, .load _ _, _, _, _, none⟩ _ _ _ _ else _)
            have c97 := (blk_cell K1.out 97).trans ((value_Of.pv_get cs 97 (by omega)).trans (show _ = some (Value.int .i8 sd) by rw [HSD.out]))
            go_simp
            clear c97
            refine ko hK ?_
            clear hK K
            refine tk 4 ?_
            refine tk 5 ?_
            refine wpAnyH_ready (rs := [6]) (by kernel_rfl) (by simp) ?_
            refine AllReadyH.cons rfl (fun K hK => ?_) AllReadyH.nil
            show (if Region.wanted ⟨some 15, .call _, _, _, _, none⟩ _ = true then Oper.wp _ ⟨some 15, .call _, _, _, _, none⟩ _ _ _ _ else _)
            go_simp
            simp only [i64_w]
            refine (attack_InCheck.incheck_calls C U _ _ g _ KT.out HC.out HU.out HW.out K2.out HI.out).mono ?_
            rintro e w7 ⟨rfl, hb⟩
            have nK1 := Aside0.mk (blk_below K1.out hb)
            have nB := Aside0.mk (below_step KB.out hb)
            have nT := Aside0.mk (KT.out.below hb)
            clear K1 KB KT hb
            have K1 := nK1
            have KB := nB
            have KT := nT
            clear nK1 nB nT
            refine ko hK ?_
            clear hK K
            refine wpAnyH_done (by kernel_rfl) ?_ _
            go_wp2
            go_meet
            exact ⟨rfl, KB⟩
          refine AllReadyH.cons rfl (fun K hK => ?_) AllReadyH.nil
          show (if Region.wanted ⟨some 12, .load _ _, _, _, _, none⟩ _ = true then Oper.wp _ ⟨some 12, .load _ _, _, _, _, none⟩ _ _ _ _ else _)
          have c97 := (blk_cell K1.out 97).trans ((value_Of.pv_get cs 97 (by omega)).trans (show _ = some (Value.int .i8 sd) by rw [HSD.out]))
          go_simp
          clear c97
          refine ko hK ?_
          clear hK K
          refine tk 4 ?_
          refine tk 5 ?_
          refine wpAnyH_ready (rs := [1]) (by kernel_rfl) (by simp) ?_
          refine AllReadyH.cons rfl (fun K hK => ?_) AllReadyH.nil
          show (if Region.wanted ⟨some 10, .call _, _, _, _, none⟩ _ = true then Oper.wp _ ⟨some 10, .call _, _, _, _, none⟩ _ _ _ _ else _)
          go_simp
          refine (board_New.new_calls cs C U _ hl HN.out).mono ?_
          rintro e w7 ⟨g, rfl, hgg, hk2, hC, hU, hb⟩
          have HC := Aside0.mk hC
          have HU := Aside0.mk hU
          have K2 := Aside0.mk hk2
          clear hk2 hC hU hgg
          have nK1 := Aside0.mk (blk_below K1.out hb)
          have nB := Aside0.mk (below_step KB.out hb)
          have nT := Aside0.mk (KT.out.below hb)
          clear K1 KB KT hb
          have K1 := nK1
          have KB := nB
          have KT := nT
          clear nK1 nB nT
          refine ko hK ?_
          clear hK K
          refine wpAnyH_ready (rs := [6]) (by kernel_rfl) (by simp) ?_
          refine AllReadyH.cons rfl (fun K hK => ?_) AllReadyH.nil
          show (if Region.wanted ⟨some 15, .call _, _, _, _, none⟩ _ = true then Oper.wp _ ⟨some 15, .call _, _, _, _, none⟩ _ _ _ _ else _)
          go_simp
          simp only [i64_w]
          refine (attack_InCheck.incheck_calls C U _ _ g _ KT.out HC.out HU.out HW.out K2.out HI.out).mono ?_
          rintro e w7 ⟨rfl, hb⟩
          have nK1 := Aside0.mk (blk_below K1.out hb)
          have nB := Aside0.mk (below_step KB.out hb)
          have nT := Aside0.mk (KT.out.below hb)
          clear K1 KB KT hb
          have K1 := nK1
          have KB := nB
          have KT := nT
          clear nK1 nB nT
          refine ko hK ?_
          clear hK K
          refine wpAnyH_done (by kernel_rfl) ?_ _
          go_wp2
          go_meet
          exact ⟨rfl, KB⟩
        refine AllReadyH.cons rfl (fun K hK => ?_) AllReadyH.nil
        show (if Region.wanted ⟨some 12, .load _ _, _, _, _, none⟩ _ = true then Oper.wp _ ⟨some 12, .load _ _, _, _, _, none⟩ _ _ _ _ else _)
        have c97 := (blk_cell K1.out 97).trans ((value_Of.pv_get cs 97 (by omega)).trans (show _ = some (Value.int .i8 sd) by rw [HSD.out]))
        go_simp
        clear c97
        refine ko hK ?_
        clear hK K
        refine tk 4 ?_
        refine tk 5 ?_
        refine wpAnyH_ready (rs := [0]) (by kernel_rfl) (by simp) ?_
        refine AllReadyH.cons rfl (fun K hK => ?_) AllReadyH.nil
        show (if Region.wanted ⟨some 9, .load 28 (.tmp 1), _, _, _, none⟩ _ = true then Oper.wp _ ⟨some 9, .load 28 (.tmp 1), _, _, _, none⟩ _ _ _ _ else _)
        rw [if_pos (by rfl)]
        refine value_Of.wp_load 28 (.tmp 1) rfl rfl K1.out Tryz.underlying28 rfl value_Of.infoP (by omega) ?_
        rw [show (cs.drop 0).take 98 = cs by rw [List.drop_zero, List.take_of_length_le (by omega)]]
        refine ko hK ?_
        clear hK K
        refine wpAnyH_ready (rs := [1]) (by kernel_rfl) (by simp) ?_
        refine AllReadyH.cons rfl (fun K hK => ?_) AllReadyH.nil
        show (if Region.wanted ⟨some 10, .call _, _, _, _, none⟩ _ = true then Oper.wp _ ⟨some 10, .call _, _, _, _, none⟩ _ _ _ _ else _)
        go_simp
        refine (board_New.new_calls cs C U _ hl HN.out).mono ?_
        rintro e w7 ⟨g, rfl, hgg, hk2, hC, hU, hb⟩
        have HC := Aside0.mk hC
        have HU := Aside0.mk hU
        have K2 := Aside0.mk hk2
        clear hk2 hC hU hgg
        have nK1 := Aside0.mk (blk_below K1.out hb)
        have nB := Aside0.mk (below_step KB.out hb)
        have nT := Aside0.mk (KT.out.below hb)
        clear K1 KB KT hb
        have K1 := nK1
        have KB := nB
        have KT := nT
        clear nK1 nB nT
        refine ko hK ?_
        clear hK K
        refine wpAnyH_ready (rs := [6]) (by kernel_rfl) (by simp) ?_
        refine AllReadyH.cons rfl (fun K hK => ?_) AllReadyH.nil
        show (if Region.wanted ⟨some 15, .call _, _, _, _, none⟩ _ = true then Oper.wp _ ⟨some 15, .call _, _, _, _, none⟩ _ _ _ _ else _)
        go_simp
        simp only [i64_w]
        refine (attack_InCheck.incheck_calls C U _ _ g _ KT.out HC.out HU.out HW.out K2.out HI.out).mono ?_
        rintro e w7 ⟨rfl, hb⟩
        have nK1 := Aside0.mk (blk_below K1.out hb)
        have nB := Aside0.mk (below_step KB.out hb)
        have nT := Aside0.mk (KT.out.below hb)
        clear K1 KB KT hb
        have K1 := nK1
        have KB := nB
        have KT := nT
        clear nK1 nB nT
        refine ko hK ?_
        clear hK K
        refine wpAnyH_done (by kernel_rfl) ?_ _
        go_wp2
        go_meet
        exact ⟨rfl, KB⟩
      case rest =>
        clear K1 KB KT
        obtain ⟨rfl, KB⟩ := hcut
        go_wp2
        go_ret
        exact ⟨rfl, KB.out⟩
    · obtain rfl : 54 = r := Option.some.inj h6
      clear h6
      go_cut [15] (fun s15 wx => s15 = .bool true ∧ Aside0 (Below w.heap.size w wx))
      case first =>
        refine wp_region_held_drew (S := fun _ => True) (by kernel_rfl) trivial (fun _ => ?_)
        have n1 := Aside0.mk (blk_drew K1.out)
        have nB := Aside0.mk (below_drew KB.out)
        have nT := Aside0.mk (KT.out.below (below_drew (Below.refl _ _)))
        clear K1 KB KT
        have K1 := n1
        have KB := nB
        have KT := nT
        clear n1 nB nT
        refine tk 2 ?_
        refine wpAnyH_ready (rs := [0, 3]) (by kernel_rfl) (by simp) ?_
        refine AllReadyH.cons rfl (fun K hK => ?_) ?_
        · show (if Region.wanted ⟨some 9, .load 28 (.tmp 1), _, _, _, none⟩ _ = true then Oper.wp _ ⟨some 9, .load 28 (.tmp 1), _, _, _, none⟩ _ _ _ _ else _)
          rw [if_pos (by rfl)]
          refine value_Of.wp_load 28 (.tmp 1) rfl rfl K1.out Tryz.underlying28 rfl value_Of.infoP (by omega) ?_
          rw [show (cs.drop 0).take 98 = cs by rw [List.drop_zero, List.take_of_length_le (by omega)]]
          refine ko hK ?_
          clear hK K
          refine wpAnyH_ready (rs := [1, 3]) (by kernel_rfl) (by simp) ?_
          refine AllReadyH.cons rfl (fun K hK => ?_) ?_
          · show (if Region.wanted ⟨some 10, .call _, _, _, _, none⟩ _ = true then Oper.wp _ ⟨some 10, .call _, _, _, _, none⟩ _ _ _ _ else _)
            go_simp
            refine (board_New.new_calls cs C U _ hl HN.out).mono ?_
            rintro e w7 ⟨g, rfl, hgg, hk2, hC, hU, hb⟩
            have HC := Aside0.mk hC
            have HU := Aside0.mk hU
            have K2 := Aside0.mk hk2
            clear hk2 hC hU hgg
            have nK1 := Aside0.mk (blk_below K1.out hb)
            have nB := Aside0.mk (below_step KB.out hb)
            have nT := Aside0.mk (KT.out.below hb)
            clear K1 KB KT hb
            have K1 := nK1
            have KB := nB
            have KT := nT
            clear nK1 nB nT
            refine ko hK ?_
            clear hK K
            refine wpAnyH_ready (rs := [3]) (by kernel_rfl) (by simp) ?_
            refine AllReadyH.cons rfl (fun K hK => ?_) AllReadyH.nil
            show (if Region.wanted ⟨some 12, .load _ _, _, _, _, none⟩ _ = true then Oper.wp _ ⟨some 12, .load _ _, _, _, _, none⟩ _ _ _ _ else _)
            have c97 := (blk_cell K1.out 97).trans ((value_Of.pv_get cs 97 (by omega)).trans (show _ = some (Value.int .i8 sd) by rw [HSD.out]))
            go_simp
            clear c97
            refine ko hK ?_
            clear hK K
            refine tk 4 ?_
            refine tk 5 ?_
            refine wpAnyH_ready (rs := [6]) (by kernel_rfl) (by simp) ?_
            refine AllReadyH.cons rfl (fun K hK => ?_) AllReadyH.nil
            show (if Region.wanted ⟨some 15, .call _, _, _, _, none⟩ _ = true then Oper.wp _ ⟨some 15, .call _, _, _, _, none⟩ _ _ _ _ else _)
            go_simp
            simp only [i64_w]
            refine (attack_InCheck.incheck_calls C U _ _ g _ KT.out HC.out HU.out HW.out K2.out HI.out).mono ?_
            rintro e w7 ⟨rfl, hb⟩
            have nK1 := Aside0.mk (blk_below K1.out hb)
            have nB := Aside0.mk (below_step KB.out hb)
            have nT := Aside0.mk (KT.out.below hb)
            clear K1 KB KT hb
            have K1 := nK1
            have KB := nB
            have KT := nT
            clear nK1 nB nT
            refine ko hK ?_
            clear hK K
            refine wpAnyH_done (by kernel_rfl) ?_ _
            go_wp2
            go_meet
            exact ⟨rfl, KB⟩
          refine AllReadyH.cons rfl (fun K hK => ?_) AllReadyH.nil
          show (if Region.wanted ⟨some 12, .load _ _, _, _, _, none⟩ _ = true then Oper.wp _ ⟨some 12, .load _ _, _, _, _, none⟩ _ _ _ _ else _)
          have c97 := (blk_cell K1.out 97).trans ((value_Of.pv_get cs 97 (by omega)).trans (show _ = some (Value.int .i8 sd) by rw [HSD.out]))
          go_simp
          clear c97
          refine ko hK ?_
          clear hK K
          refine tk 4 ?_
          refine tk 5 ?_
          refine wpAnyH_ready (rs := [1]) (by kernel_rfl) (by simp) ?_
          refine AllReadyH.cons rfl (fun K hK => ?_) AllReadyH.nil
          show (if Region.wanted ⟨some 10, .call _, _, _, _, none⟩ _ = true then Oper.wp _ ⟨some 10, .call _, _, _, _, none⟩ _ _ _ _ else _)
          go_simp
          refine (board_New.new_calls cs C U _ hl HN.out).mono ?_
          rintro e w7 ⟨g, rfl, hgg, hk2, hC, hU, hb⟩
          have HC := Aside0.mk hC
          have HU := Aside0.mk hU
          have K2 := Aside0.mk hk2
          clear hk2 hC hU hgg
          have nK1 := Aside0.mk (blk_below K1.out hb)
          have nB := Aside0.mk (below_step KB.out hb)
          have nT := Aside0.mk (KT.out.below hb)
          clear K1 KB KT hb
          have K1 := nK1
          have KB := nB
          have KT := nT
          clear nK1 nB nT
          refine ko hK ?_
          clear hK K
          refine wpAnyH_ready (rs := [6]) (by kernel_rfl) (by simp) ?_
          refine AllReadyH.cons rfl (fun K hK => ?_) AllReadyH.nil
          show (if Region.wanted ⟨some 15, .call _, _, _, _, none⟩ _ = true then Oper.wp _ ⟨some 15, .call _, _, _, _, none⟩ _ _ _ _ else _)
          go_simp
          simp only [i64_w]
          refine (attack_InCheck.incheck_calls C U _ _ g _ KT.out HC.out HU.out HW.out K2.out HI.out).mono ?_
          rintro e w7 ⟨rfl, hb⟩
          have nK1 := Aside0.mk (blk_below K1.out hb)
          have nB := Aside0.mk (below_step KB.out hb)
          have nT := Aside0.mk (KT.out.below hb)
          clear K1 KB KT hb
          have K1 := nK1
          have KB := nB
          have KT := nT
          clear nK1 nB nT
          refine ko hK ?_
          clear hK K
          refine wpAnyH_done (by kernel_rfl) ?_ _
          go_wp2
          go_meet
          exact ⟨rfl, KB⟩
        refine AllReadyH.cons rfl (fun K hK => ?_) AllReadyH.nil
        show (if Region.wanted ⟨some 12, .load _ _, _, _, _, none⟩ _ = true then Oper.wp _ ⟨some 12, .load _ _, _, _, _, none⟩ _ _ _ _ else _)
        have c97 := (blk_cell K1.out 97).trans ((value_Of.pv_get cs 97 (by omega)).trans (show _ = some (Value.int .i8 sd) by rw [HSD.out]))
        go_simp
        clear c97
        refine ko hK ?_
        clear hK K
        refine tk 4 ?_
        refine tk 5 ?_
        refine wpAnyH_ready (rs := [0]) (by kernel_rfl) (by simp) ?_
        refine AllReadyH.cons rfl (fun K hK => ?_) AllReadyH.nil
        show (if Region.wanted ⟨some 9, .load 28 (.tmp 1), _, _, _, none⟩ _ = true then Oper.wp _ ⟨some 9, .load 28 (.tmp 1), _, _, _, none⟩ _ _ _ _ else _)
        rw [if_pos (by rfl)]
        refine value_Of.wp_load 28 (.tmp 1) rfl rfl K1.out Tryz.underlying28 rfl value_Of.infoP (by omega) ?_
        rw [show (cs.drop 0).take 98 = cs by rw [List.drop_zero, List.take_of_length_le (by omega)]]
        refine ko hK ?_
        clear hK K
        refine wpAnyH_ready (rs := [1]) (by kernel_rfl) (by simp) ?_
        refine AllReadyH.cons rfl (fun K hK => ?_) AllReadyH.nil
        show (if Region.wanted ⟨some 10, .call _, _, _, _, none⟩ _ = true then Oper.wp _ ⟨some 10, .call _, _, _, _, none⟩ _ _ _ _ else _)
        go_simp
        refine (board_New.new_calls cs C U _ hl HN.out).mono ?_
        rintro e w7 ⟨g, rfl, hgg, hk2, hC, hU, hb⟩
        have HC := Aside0.mk hC
        have HU := Aside0.mk hU
        have K2 := Aside0.mk hk2
        clear hk2 hC hU hgg
        have nK1 := Aside0.mk (blk_below K1.out hb)
        have nB := Aside0.mk (below_step KB.out hb)
        have nT := Aside0.mk (KT.out.below hb)
        clear K1 KB KT hb
        have K1 := nK1
        have KB := nB
        have KT := nT
        clear nK1 nB nT
        refine ko hK ?_
        clear hK K
        refine wpAnyH_ready (rs := [6]) (by kernel_rfl) (by simp) ?_
        refine AllReadyH.cons rfl (fun K hK => ?_) AllReadyH.nil
        show (if Region.wanted ⟨some 15, .call _, _, _, _, none⟩ _ = true then Oper.wp _ ⟨some 15, .call _, _, _, _, none⟩ _ _ _ _ else _)
        go_simp
        simp only [i64_w]
        refine (attack_InCheck.incheck_calls C U _ _ g _ KT.out HC.out HU.out HW.out K2.out HI.out).mono ?_
        rintro e w7 ⟨rfl, hb⟩
        have nK1 := Aside0.mk (blk_below K1.out hb)
        have nB := Aside0.mk (below_step KB.out hb)
        have nT := Aside0.mk (KT.out.below hb)
        clear K1 KB KT hb
        have K1 := nK1
        have KB := nB
        have KT := nT
        clear nK1 nB nT
        refine ko hK ?_
        clear hK K
        refine wpAnyH_done (by kernel_rfl) ?_ _
        go_wp2
        go_meet
        exact ⟨rfl, KB⟩
      case rest =>
        clear K1 KB KT
        obtain ⟨rfl, KB⟩ := hcut
        go_wp2
        go_ret
        exact ⟨rfl, KB.out⟩
  · rw [if_neg he] at h2
    obtain rfl := Option.some.inj h2
    have c0 : (e0 != 0) = true := by simpa using he
    clear h1 h2 he
    go_wp2_with (first | ((with_reducible refine gate_dst (N := 4) rfl ?_); refine value_Of.load rfl 28 (.tmp 1) rfl rfl K1.out Tryz.underlying28 rfl value_Of.infoP (by omega) ?_; rw [show (cs.drop 0).take 98 = cs by rw [List.drop_zero, List.take_of_length_le (by omega)]]) | (go_at_call 43; refine (board_Check.check_calls cs _ _ hl H1.out).mono ?_; rintro e w7 ⟨rfl, hb⟩; have nK1 := Aside0.mk (blk_below K1.out hb); have nB := Aside0.mk (below_step KB.out hb); have nT := Aside0.mk (KT.out.below hb); clear K1 KB KT hb; have K1 := nK1; have KB := nB; have KT := nT; clear nK1 nB nT))
    go_ret
    exact ⟨rfl, KB.out⟩
def piece_Name.f (k : Nat) (a0 : Int) : Option (ByteArray) := (piece_Kind.f k a0).bind fun t230 => (if t230 = 0 then (some (⟨#[]⟩ : ByteArray)) else ((piece_Raw.f t230).bind fun t231 => (if 0 ≤ t231 then (if t231 < 9 then ((piece_Side.f k a0).bind fun t232 => (if t232 = 1 then (if t230 > 8 then (some (strOfNums (([43, ((bt (⟨#[32, 80, 76, 78, 83, 71, 66, 82, 75]⟩ : ByteArray) t231) + 32) % 256] : List Int)))) else (some (strOfNums (([((bt (⟨#[32, 80, 76, 78, 83, 71, 66, 82, 75]⟩ : ByteArray) t231) + 32) % 256] : List Int))))) else (if t230 > 8 then (some (strOfNums (([43, bt (⟨#[32, 80, 76, 78, 83, 71, 66, 82, 75]⟩ : ByteArray) t231] : List Int)))) else (some (strOfNums (([bt (⟨#[32, 80, 76, 78, 83, 71, 66, 82, 75]⟩ : ByteArray) t231] : List Int))))))) else (none)) else (none))))
theorem piece_Name.mono : ∀ a0 k, LeO (piece_Name.f k a0) (piece_Name.f (k + 1) a0) := by
  intro a0 k
  unfold piece_Name.f
  repeat' first
      | (with_reducible exact piece_Kind.mono _ _)
      | (with_reducible exact piece_Side.mono _ _)
      | (with_reducible exact LeO.refl _)
      | (with_reducible exact LeO.none _)
      | (with_reducible refine LeO.ite ?_ ?_)
      | (with_reducible refine LeO.bind ?_ (fun _ => ?_))
      | exact piece_Kind.mono _ _
      | exact piece_Side.mono _ _
      | exact LeO.none _
      | refine LeO.ite ?_ ?_
      | refine LeO.bind ?_ (fun _ => ?_)
set_option maxHeartbeats 8000000 in
set_option maxRecDepth 100000 in
theorem piece_Name.calls (k : Nat) (a0 : Int) (r : ByteArray) (w : World) (h : piece_Name.f k a0 = some r) :
    Calls Tryz.prog 23 #[.int .i8 a0] w fun e w' => e = .returned (.string r) ∧ Below w.heap.size w w' := by
  have HB := Aside0.mk (Below.refl w.heap.size w)
  have H : ((piece_Kind.f k a0).bind fun t230 => (if t230 = 0 then (some (⟨#[]⟩ : ByteArray)) else ((piece_Raw.f t230).bind fun t231 => (if 0 ≤ t231 then (if t231 < 9 then ((piece_Side.f k a0).bind fun t232 => (if t232 = 1 then (if t230 > 8 then (some (strOfNums (([43, ((bt (⟨#[32, 80, 76, 78, 83, 71, 66, 82, 75]⟩ : ByteArray) t231) + 32) % 256] : List Int)))) else (some (strOfNums (([((bt (⟨#[32, 80, 76, 78, 83, 71, 66, 82, 75]⟩ : ByteArray) t231) + 32) % 256] : List Int))))) else (if t230 > 8 then (some (strOfNums (([43, bt (⟨#[32, 80, 76, 78, 83, 71, 66, 82, 75]⟩ : ByteArray) t231] : List Int)))) else (some (strOfNums (([bt (⟨#[32, 80, 76, 78, 83, 71, 66, 82, 75]⟩ : ByteArray) t231] : List Int))))))) else (none)) else (none))))) = some r := h
  clear h
  replace H := Option.bind_eq_some_iff.mp H
  obtain ⟨t230, A20, H⟩ := H
  replace H : (if t230 = 0 then (some (⟨#[]⟩ : ByteArray)) else ((piece_Raw.f t230).bind fun t231 => (if 0 ≤ t231 then (if t231 < 9 then ((piece_Side.f k a0).bind fun t232 => (if t232 = 1 then (if t230 > 8 then (some (strOfNums (([43, ((bt (⟨#[32, 80, 76, 78, 83, 71, 66, 82, 75]⟩ : ByteArray) t231) + 32) % 256] : List Int)))) else (some (strOfNums (([((bt (⟨#[32, 80, 76, 78, 83, 71, 66, 82, 75]⟩ : ByteArray) t231) + 32) % 256] : List Int))))) else (if t230 > 8 then (some (strOfNums (([43, bt (⟨#[32, 80, 76, 78, 83, 71, 66, 82, 75]⟩ : ByteArray) t231] : List Int)))) else (some (strOfNums (([bt (⟨#[32, 80, 76, 78, 83, 71, 66, 82, 75]⟩ : ByteArray) t231] : List Int))))))) else (none)) else (none)))) = some r := H
  have A2 := Aside0.mk A20
  clear A20
  by_cases c3 : t230 = 0
  · rw [if_pos c3] at H
    have c3b0 : (t230 == 0) = true := beq_iff_eq.mpr c3
    have c3b1 : (t230 != 0) = false := bne_eq_false_iff_eq.mpr c3
    clear c3
    obtain rfl := Option.some.inj H
    go_enter Tryz.func23, Tryz.ntmps23
    go_wp2_with (first | ((with_reducible refine gate_callee (f := 24) rfl ?_); refine goesL_ (some 6) rfl rfl Tryz.func24 (by kernel_rfl) rfl #[.int .i8 a0] rfl (by (try simp only [List.map_toArray, List.map_cons, List.map_nil]); first | done | rfl | (simp only [List.length_drop, List.length_take]; rfl)) ?_; (with_reducible refine (piece_Kind.calls k a0 t230 _ A2.out).mono ?_); rintro e w' ⟨rfl, ⟨nd, rfl⟩⟩; refine ⟨_, rfl, ?_⟩))
    go_ret
    exact ⟨by first | rfl | (simp [errW_none, errW_some] <;> rfl) | (simp [*, errW_none, errW_some] <;> rfl) | (simp [*, errW_none, errW_some]; generalize ByteArray.toList _ = q_; cases q_ <;> rfl), by repeat (first | (with_reducible first | exact HB.out | apply below_alloc | apply pw_below_drewN | apply below_drew1) | exact HB.out)⟩
  · rw [if_neg c3] at H
    have c3b0 : (t230 == 0) = false := beq_eq_false_iff_ne.mpr c3
    have c3b1 : (t230 != 0) = true := bne_iff_ne.mpr c3
    replace H := Option.bind_eq_some_iff.mp H
    obtain ⟨t231, A40, H⟩ := H
    replace H : (if 0 ≤ t231 then (if t231 < 9 then ((piece_Side.f k a0).bind fun t232 => (if t232 = 1 then (if t230 > 8 then (some (strOfNums (([43, ((bt (⟨#[32, 80, 76, 78, 83, 71, 66, 82, 75]⟩ : ByteArray) t231) + 32) % 256] : List Int)))) else (some (strOfNums (([((bt (⟨#[32, 80, 76, 78, 83, 71, 66, 82, 75]⟩ : ByteArray) t231) + 32) % 256] : List Int))))) else (if t230 > 8 then (some (strOfNums (([43, bt (⟨#[32, 80, 76, 78, 83, 71, 66, 82, 75]⟩ : ByteArray) t231] : List Int)))) else (some (strOfNums (([bt (⟨#[32, 80, 76, 78, 83, 71, 66, 82, 75]⟩ : ByteArray) t231] : List Int))))))) else (none)) else (none)) = some r := H
    have A4 := Aside0.mk A40
    clear A40
    by_cases c5 : 0 ≤ t231
    · rw [if_pos c5] at H
      have c5b0 : decide (0 ≤ t231) = true := decide_eq_true c5
      clear c5
      by_cases c6 : t231 < 9
      · rw [if_pos c6] at H
        have c6b0 : decide (t231 < 9) = true := decide_eq_true c6
        clear c6
        replace H := Option.bind_eq_some_iff.mp H
        obtain ⟨t232, A80, H⟩ := H
        replace H : (if t232 = 1 then (if t230 > 8 then (some (strOfNums (([43, ((bt (⟨#[32, 80, 76, 78, 83, 71, 66, 82, 75]⟩ : ByteArray) t231) + 32) % 256] : List Int)))) else (some (strOfNums (([((bt (⟨#[32, 80, 76, 78, 83, 71, 66, 82, 75]⟩ : ByteArray) t231) + 32) % 256] : List Int))))) else (if t230 > 8 then (some (strOfNums (([43, bt (⟨#[32, 80, 76, 78, 83, 71, 66, 82, 75]⟩ : ByteArray) t231] : List Int)))) else (some (strOfNums (([bt (⟨#[32, 80, 76, 78, 83, 71, 66, 82, 75]⟩ : ByteArray) t231] : List Int)))))) = some r := H
        have A8 := Aside0.mk A80
        clear A80
        by_cases c9 : t232 = 1
        · rw [if_pos c9] at H
          have c9b0 : (t232 == 1) = true := beq_iff_eq.mpr c9
          have c9b1 : (t232 != 1) = false := bne_eq_false_iff_eq.mpr c9
          clear c9
          by_cases c10 : t230 > 8
          · rw [if_pos c10] at H
            have c10b0 : decide (8 < t230) = true := decide_eq_true c10
            clear c10
            obtain ⟨y233, hy233⟩ : ∃ y_ : List Int, y_ = (([43, ((bt (⟨#[32, 80, 76, 78, 83, 71, 66, 82, 75]⟩ : ByteArray) t231) + 32) % 256] : List Int)) := ⟨_, rfl⟩
            replace H : (some (strOfNums y233)) = some r := by first | (rw [hy233]; with_reducible exact H) | (have H2_ := (Option.bind_some _ _).symm.trans H; rw [hy233]; with_reducible exact H2_) | (have H2_ := (Option.bind_some _ _).symm.trans H; with_reducible exact H2_) | with_reducible exact H | (rw [hy233]; exact H) | exact H
            have Ny233 := Aside0.mk hy233
            clear hy233
            obtain rfl := Option.some.inj H
            go_enter Tryz.func23, Tryz.ntmps23
            go_wp2_with (first | ((with_reducible refine gate_callee (f := 24) rfl ?_); refine goesL_ (some 6) rfl rfl Tryz.func24 (by kernel_rfl) rfl #[.int .i8 a0] rfl (by (try simp only [List.map_toArray, List.map_cons, List.map_nil]); first | done | rfl | (simp only [List.length_drop, List.length_take]; rfl)) ?_; (with_reducible refine (piece_Kind.calls k a0 t230 _ A2.out).mono ?_); rintro e w' ⟨rfl, ⟨nd, rfl⟩⟩; refine ⟨_, rfl, ?_⟩) | ((with_reducible refine gate_callee (f := 47) rfl ?_); refine goesL_ (some 10) rfl rfl Tryz.func47 (by kernel_rfl) rfl #[.int .i64 t230] rfl (by (try simp only [List.map_toArray, List.map_cons, List.map_nil]); first | done | rfl | (simp only [List.length_drop, List.length_take]; rfl)) ?_; (with_reducible refine (piece_Raw.calls t230 t231 _ A4.out).mono ?_); rintro e w' ⟨rfl, ⟨nd, rfl⟩⟩; refine ⟨_, rfl, ?_⟩; have p7 : 0 ≤ (t231 : Int) := of_decide_eq_true (by first | (with_reducible assumption) | assumption); have q7 : t231 < (9 : Int) := of_decide_eq_true (by first | (with_reducible assumption) | assumption); have hx7 := bt_at (⟨#[32, 80, 76, 78, 83, 71, 66, 82, 75]⟩ : ByteArray) t231; replace p7 := eq_true p7; replace q7 := eq_true q7) | ((with_reducible refine gate_callee (f := 48) rfl ?_); refine goesL_ (some 13) rfl rfl Tryz.func48 (by kernel_rfl) rfl #[.int .i8 a0] rfl (by (try simp only [List.map_toArray, List.map_cons, List.map_nil]); first | done | rfl | (simp only [List.length_drop, List.length_take]; rfl)) ?_; (with_reducible refine (piece_Side.calls k a0 t232 _ A8.out).mono ?_); rintro e w' ⟨rfl, ⟨nd, rfl⟩⟩; refine ⟨_, rfl, ?_⟩) | ((with_reducible refine gate_dst (N := 20) rfl ?_); refine Kd.R_lit (Kd.int .u8) _ 5 ?hg (N := 20) ?hd (xs := ([43, ((bt (⟨#[32, 80, 76, 78, 83, 71, 66, 82, 75]⟩ : ByteArray) t231) + 32) % 256] : List Int)) (inner := [.int .u8 43, .int .u8 (((bt (⟨#[32, 80, 76, 78, 83, 71, 66, 82, 75]⟩ : ByteArray) t231) + 32) % 256)]) (ok := fun _ => True) (okp := fun _ => True) ?hr ?hp (fun _ hk => hk) trivial (Below.refl _ _) (Nat.le_refl _) (by simp) ?_; (case hd => rfl); (case hg => rfl); (case hr => first | (go_simp; done) | (go_simp; rfl)); (case hp => exact (Reps.one (show Kd.M (Kd.int .u8) _ _ _ 43 [.int .u8 43] from rfl) (Reps.one (show Kd.M (Kd.int .u8) _ _ _ (((bt (⟨#[32, 80, 76, 78, 83, 71, 66, 82, 75]⟩ : ByteArray) t231) + 32) % 256) [.int .u8 (((bt (⟨#[32, 80, 76, 78, 83, 71, 66, 82, 75]⟩ : ByteArray) t231) + 32) % 256)] from rfl) (Reps.none _ _)))); intro v234 w11 ho12 hb hg_ hnew_; clear hg_ hnew_; (first | rw [← Ny233.out] at ho12 | (simp only [Int.reduceToNat] at ho12; rw [← Ny233.out] at ho12)); have n0_ := Aside0.mk (Kd.R_lower ho12 (below_size (by repeat (first | (with_reducible first | exact HB.out | apply below_alloc | apply pw_below_drewN | apply below_drew1) | exact HB.out)))); have n1_ := Aside0.mk (below_step (by repeat (first | (with_reducible first | exact HB.out | apply below_alloc | apply pw_below_drewN | apply below_drew1) | exact HB.out)) hb); clear HB; have HO235 := n0_; have HB := n1_; clear n0_ n1_; clear hb ho12; have hcv13 := own_string (P := Tryz.prog) Tryz.underlying39 Tryz.underlying5 Tryz.underlying9 (Kd.own_of_R HO235.out)))
            go_ret
            exact ⟨by first | rfl | (simp [errW_none, errW_some] <;> rfl) | (simp [*, errW_none, errW_some] <;> rfl) | (simp [*, errW_none, errW_some]; generalize ByteArray.toList _ = q_; cases q_ <;> rfl), by repeat (first | (with_reducible first | exact HB.out | apply below_alloc | apply pw_below_drewN | apply below_drew1) | exact HB.out)⟩
          · rw [if_neg c10] at H
            have c10b0 : decide (8 < t230) = false := decide_eq_false c10
            clear c10
            obtain ⟨y236, hy236⟩ : ∃ y_ : List Int, y_ = (([((bt (⟨#[32, 80, 76, 78, 83, 71, 66, 82, 75]⟩ : ByteArray) t231) + 32) % 256] : List Int)) := ⟨_, rfl⟩
            replace H : (some (strOfNums y236)) = some r := by first | (rw [hy236]; with_reducible exact H) | (have H2_ := (Option.bind_some _ _).symm.trans H; rw [hy236]; with_reducible exact H2_) | (have H2_ := (Option.bind_some _ _).symm.trans H; with_reducible exact H2_) | with_reducible exact H | (rw [hy236]; exact H) | exact H
            have Ny236 := Aside0.mk hy236
            clear hy236
            obtain rfl := Option.some.inj H
            go_enter Tryz.func23, Tryz.ntmps23
            go_wp2_with (first | ((with_reducible refine gate_callee (f := 24) rfl ?_); refine goesL_ (some 6) rfl rfl Tryz.func24 (by kernel_rfl) rfl #[.int .i8 a0] rfl (by (try simp only [List.map_toArray, List.map_cons, List.map_nil]); first | done | rfl | (simp only [List.length_drop, List.length_take]; rfl)) ?_; (with_reducible refine (piece_Kind.calls k a0 t230 _ A2.out).mono ?_); rintro e w' ⟨rfl, ⟨nd, rfl⟩⟩; refine ⟨_, rfl, ?_⟩) | ((with_reducible refine gate_callee (f := 47) rfl ?_); refine goesL_ (some 10) rfl rfl Tryz.func47 (by kernel_rfl) rfl #[.int .i64 t230] rfl (by (try simp only [List.map_toArray, List.map_cons, List.map_nil]); first | done | rfl | (simp only [List.length_drop, List.length_take]; rfl)) ?_; (with_reducible refine (piece_Raw.calls t230 t231 _ A4.out).mono ?_); rintro e w' ⟨rfl, ⟨nd, rfl⟩⟩; refine ⟨_, rfl, ?_⟩; have p7 : 0 ≤ (t231 : Int) := of_decide_eq_true (by first | (with_reducible assumption) | assumption); have q7 : t231 < (9 : Int) := of_decide_eq_true (by first | (with_reducible assumption) | assumption); have hx7 := bt_at (⟨#[32, 80, 76, 78, 83, 71, 66, 82, 75]⟩ : ByteArray) t231; replace p7 := eq_true p7; replace q7 := eq_true q7) | ((with_reducible refine gate_callee (f := 48) rfl ?_); refine goesL_ (some 13) rfl rfl Tryz.func48 (by kernel_rfl) rfl #[.int .i8 a0] rfl (by (try simp only [List.map_toArray, List.map_cons, List.map_nil]); first | done | rfl | (simp only [List.length_drop, List.length_take]; rfl)) ?_; (with_reducible refine (piece_Side.calls k a0 t232 _ A8.out).mono ?_); rintro e w' ⟨rfl, ⟨nd, rfl⟩⟩; refine ⟨_, rfl, ?_⟩) | ((with_reducible refine gate_dst (N := 23) rfl ?_); refine Kd.R_lit (Kd.int .u8) _ 5 ?hg (N := 23) ?hd (xs := ([((bt (⟨#[32, 80, 76, 78, 83, 71, 66, 82, 75]⟩ : ByteArray) t231) + 32) % 256] : List Int)) (inner := [.int .u8 (((bt (⟨#[32, 80, 76, 78, 83, 71, 66, 82, 75]⟩ : ByteArray) t231) + 32) % 256)]) (ok := fun _ => True) (okp := fun _ => True) ?hr ?hp (fun _ hk => hk) trivial (Below.refl _ _) (Nat.le_refl _) (by simp) ?_; (case hd => rfl); (case hg => rfl); (case hr => first | (go_simp; done) | (go_simp; rfl)); (case hp => exact (Reps.one (show Kd.M (Kd.int .u8) _ _ _ (((bt (⟨#[32, 80, 76, 78, 83, 71, 66, 82, 75]⟩ : ByteArray) t231) + 32) % 256) [.int .u8 (((bt (⟨#[32, 80, 76, 78, 83, 71, 66, 82, 75]⟩ : ByteArray) t231) + 32) % 256)] from rfl) (Reps.none _ _))); intro v237 w14 ho15 hb hg_ hnew_; clear hg_ hnew_; (first | rw [← Ny236.out] at ho15 | (simp only [Int.reduceToNat] at ho15; rw [← Ny236.out] at ho15)); have n0_ := Aside0.mk (Kd.R_lower ho15 (below_size (by repeat (first | (with_reducible first | exact HB.out | apply below_alloc | apply pw_below_drewN | apply below_drew1) | exact HB.out)))); have n1_ := Aside0.mk (below_step (by repeat (first | (with_reducible first | exact HB.out | apply below_alloc | apply pw_below_drewN | apply below_drew1) | exact HB.out)) hb); clear HB; have HO238 := n0_; have HB := n1_; clear n0_ n1_; clear hb ho15; have hcv16 := own_string (P := Tryz.prog) Tryz.underlying39 Tryz.underlying5 Tryz.underlying9 (Kd.own_of_R HO238.out)))
            go_ret
            exact ⟨by first | rfl | (simp [errW_none, errW_some] <;> rfl) | (simp [*, errW_none, errW_some] <;> rfl) | (simp [*, errW_none, errW_some]; generalize ByteArray.toList _ = q_; cases q_ <;> rfl), by repeat (first | (with_reducible first | exact HB.out | apply below_alloc | apply pw_below_drewN | apply below_drew1) | exact HB.out)⟩
        · rw [if_neg c9] at H
          have c9b0 : (t232 == 1) = false := beq_eq_false_iff_ne.mpr c9
          have c9b1 : (t232 != 1) = true := bne_iff_ne.mpr c9
          by_cases c17 : t230 > 8
          · rw [if_pos c17] at H
            have c17b0 : decide (8 < t230) = true := decide_eq_true c17
            clear c17
            obtain ⟨y239, hy239⟩ : ∃ y_ : List Int, y_ = (([43, bt (⟨#[32, 80, 76, 78, 83, 71, 66, 82, 75]⟩ : ByteArray) t231] : List Int)) := ⟨_, rfl⟩
            replace H : (some (strOfNums y239)) = some r := by first | (rw [hy239]; with_reducible exact H) | (have H2_ := (Option.bind_some _ _).symm.trans H; rw [hy239]; with_reducible exact H2_) | (have H2_ := (Option.bind_some _ _).symm.trans H; with_reducible exact H2_) | with_reducible exact H | (rw [hy239]; exact H) | exact H
            have Ny239 := Aside0.mk hy239
            clear hy239
            obtain rfl := Option.some.inj H
            go_enter Tryz.func23, Tryz.ntmps23
            go_wp2_with (first | ((with_reducible refine gate_callee (f := 24) rfl ?_); refine goesL_ (some 6) rfl rfl Tryz.func24 (by kernel_rfl) rfl #[.int .i8 a0] rfl (by (try simp only [List.map_toArray, List.map_cons, List.map_nil]); first | done | rfl | (simp only [List.length_drop, List.length_take]; rfl)) ?_; (with_reducible refine (piece_Kind.calls k a0 t230 _ A2.out).mono ?_); rintro e w' ⟨rfl, ⟨nd, rfl⟩⟩; refine ⟨_, rfl, ?_⟩) | ((with_reducible refine gate_callee (f := 47) rfl ?_); refine goesL_ (some 10) rfl rfl Tryz.func47 (by kernel_rfl) rfl #[.int .i64 t230] rfl (by (try simp only [List.map_toArray, List.map_cons, List.map_nil]); first | done | rfl | (simp only [List.length_drop, List.length_take]; rfl)) ?_; (with_reducible refine (piece_Raw.calls t230 t231 _ A4.out).mono ?_); rintro e w' ⟨rfl, ⟨nd, rfl⟩⟩; refine ⟨_, rfl, ?_⟩; have p7 : 0 ≤ (t231 : Int) := of_decide_eq_true (by first | (with_reducible assumption) | assumption); have q7 : t231 < (9 : Int) := of_decide_eq_true (by first | (with_reducible assumption) | assumption); have hx7 := bt_at (⟨#[32, 80, 76, 78, 83, 71, 66, 82, 75]⟩ : ByteArray) t231; replace p7 := eq_true p7; replace q7 := eq_true q7) | ((with_reducible refine gate_callee (f := 48) rfl ?_); refine goesL_ (some 13) rfl rfl Tryz.func48 (by kernel_rfl) rfl #[.int .i8 a0] rfl (by (try simp only [List.map_toArray, List.map_cons, List.map_nil]); first | done | rfl | (simp only [List.length_drop, List.length_take]; rfl)) ?_; (with_reducible refine (piece_Side.calls k a0 t232 _ A8.out).mono ?_); rintro e w' ⟨rfl, ⟨nd, rfl⟩⟩; refine ⟨_, rfl, ?_⟩) | ((with_reducible refine gate_dst (N := 20) rfl ?_); refine Kd.R_lit (Kd.int .u8) _ 5 ?hg (N := 20) ?hd (xs := ([43, bt (⟨#[32, 80, 76, 78, 83, 71, 66, 82, 75]⟩ : ByteArray) t231] : List Int)) (inner := [.int .u8 43, .int .u8 (bt (⟨#[32, 80, 76, 78, 83, 71, 66, 82, 75]⟩ : ByteArray) t231)]) (ok := fun _ => True) (okp := fun _ => True) ?hr ?hp (fun _ hk => hk) trivial (Below.refl _ _) (Nat.le_refl _) (by simp) ?_; (case hd => rfl); (case hg => rfl); (case hr => first | (go_simp; done) | (go_simp; rfl)); (case hp => exact (Reps.one (show Kd.M (Kd.int .u8) _ _ _ 43 [.int .u8 43] from rfl) (Reps.one (show Kd.M (Kd.int .u8) _ _ _ (bt (⟨#[32, 80, 76, 78, 83, 71, 66, 82, 75]⟩ : ByteArray) t231) [.int .u8 (bt (⟨#[32, 80, 76, 78, 83, 71, 66, 82, 75]⟩ : ByteArray) t231)] from rfl) (Reps.none _ _)))); intro v240 w18 ho19 hb hg_ hnew_; clear hg_ hnew_; (first | rw [← Ny239.out] at ho19 | (simp only [Int.reduceToNat] at ho19; rw [← Ny239.out] at ho19)); have n0_ := Aside0.mk (Kd.R_lower ho19 (below_size (by repeat (first | (with_reducible first | exact HB.out | apply below_alloc | apply pw_below_drewN | apply below_drew1) | exact HB.out)))); have n1_ := Aside0.mk (below_step (by repeat (first | (with_reducible first | exact HB.out | apply below_alloc | apply pw_below_drewN | apply below_drew1) | exact HB.out)) hb); clear HB; have HO241 := n0_; have HB := n1_; clear n0_ n1_; clear hb ho19; have hcv20 := own_string (P := Tryz.prog) Tryz.underlying39 Tryz.underlying5 Tryz.underlying9 (Kd.own_of_R HO241.out)))
            go_ret
            exact ⟨by first | rfl | (simp [errW_none, errW_some] <;> rfl) | (simp [*, errW_none, errW_some] <;> rfl) | (simp [*, errW_none, errW_some]; generalize ByteArray.toList _ = q_; cases q_ <;> rfl), by repeat (first | (with_reducible first | exact HB.out | apply below_alloc | apply pw_below_drewN | apply below_drew1) | exact HB.out)⟩
          · rw [if_neg c17] at H
            have c17b0 : decide (8 < t230) = false := decide_eq_false c17
            clear c17
            obtain ⟨y242, hy242⟩ : ∃ y_ : List Int, y_ = (([bt (⟨#[32, 80, 76, 78, 83, 71, 66, 82, 75]⟩ : ByteArray) t231] : List Int)) := ⟨_, rfl⟩
            replace H : (some (strOfNums y242)) = some r := by first | (rw [hy242]; with_reducible exact H) | (have H2_ := (Option.bind_some _ _).symm.trans H; rw [hy242]; with_reducible exact H2_) | (have H2_ := (Option.bind_some _ _).symm.trans H; with_reducible exact H2_) | with_reducible exact H | (rw [hy242]; exact H) | exact H
            have Ny242 := Aside0.mk hy242
            clear hy242
            obtain rfl := Option.some.inj H
            go_enter Tryz.func23, Tryz.ntmps23
            go_wp2_with (first | ((with_reducible refine gate_callee (f := 24) rfl ?_); refine goesL_ (some 6) rfl rfl Tryz.func24 (by kernel_rfl) rfl #[.int .i8 a0] rfl (by (try simp only [List.map_toArray, List.map_cons, List.map_nil]); first | done | rfl | (simp only [List.length_drop, List.length_take]; rfl)) ?_; (with_reducible refine (piece_Kind.calls k a0 t230 _ A2.out).mono ?_); rintro e w' ⟨rfl, ⟨nd, rfl⟩⟩; refine ⟨_, rfl, ?_⟩) | ((with_reducible refine gate_callee (f := 47) rfl ?_); refine goesL_ (some 10) rfl rfl Tryz.func47 (by kernel_rfl) rfl #[.int .i64 t230] rfl (by (try simp only [List.map_toArray, List.map_cons, List.map_nil]); first | done | rfl | (simp only [List.length_drop, List.length_take]; rfl)) ?_; (with_reducible refine (piece_Raw.calls t230 t231 _ A4.out).mono ?_); rintro e w' ⟨rfl, ⟨nd, rfl⟩⟩; refine ⟨_, rfl, ?_⟩; have p7 : 0 ≤ (t231 : Int) := of_decide_eq_true (by first | (with_reducible assumption) | assumption); have q7 : t231 < (9 : Int) := of_decide_eq_true (by first | (with_reducible assumption) | assumption); have hx7 := bt_at (⟨#[32, 80, 76, 78, 83, 71, 66, 82, 75]⟩ : ByteArray) t231; replace p7 := eq_true p7; replace q7 := eq_true q7) | ((with_reducible refine gate_callee (f := 48) rfl ?_); refine goesL_ (some 13) rfl rfl Tryz.func48 (by kernel_rfl) rfl #[.int .i8 a0] rfl (by (try simp only [List.map_toArray, List.map_cons, List.map_nil]); first | done | rfl | (simp only [List.length_drop, List.length_take]; rfl)) ?_; (with_reducible refine (piece_Side.calls k a0 t232 _ A8.out).mono ?_); rintro e w' ⟨rfl, ⟨nd, rfl⟩⟩; refine ⟨_, rfl, ?_⟩) | ((with_reducible refine gate_dst (N := 23) rfl ?_); refine Kd.R_lit (Kd.int .u8) _ 5 ?hg (N := 23) ?hd (xs := ([bt (⟨#[32, 80, 76, 78, 83, 71, 66, 82, 75]⟩ : ByteArray) t231] : List Int)) (inner := [.int .u8 (bt (⟨#[32, 80, 76, 78, 83, 71, 66, 82, 75]⟩ : ByteArray) t231)]) (ok := fun _ => True) (okp := fun _ => True) ?hr ?hp (fun _ hk => hk) trivial (Below.refl _ _) (Nat.le_refl _) (by simp) ?_; (case hd => rfl); (case hg => rfl); (case hr => first | (go_simp; done) | (go_simp; rfl)); (case hp => exact (Reps.one (show Kd.M (Kd.int .u8) _ _ _ (bt (⟨#[32, 80, 76, 78, 83, 71, 66, 82, 75]⟩ : ByteArray) t231) [.int .u8 (bt (⟨#[32, 80, 76, 78, 83, 71, 66, 82, 75]⟩ : ByteArray) t231)] from rfl) (Reps.none _ _))); intro v243 w21 ho22 hb hg_ hnew_; clear hg_ hnew_; (first | rw [← Ny242.out] at ho22 | (simp only [Int.reduceToNat] at ho22; rw [← Ny242.out] at ho22)); have n0_ := Aside0.mk (Kd.R_lower ho22 (below_size (by repeat (first | (with_reducible first | exact HB.out | apply below_alloc | apply pw_below_drewN | apply below_drew1) | exact HB.out)))); have n1_ := Aside0.mk (below_step (by repeat (first | (with_reducible first | exact HB.out | apply below_alloc | apply pw_below_drewN | apply below_drew1) | exact HB.out)) hb); clear HB; have HO244 := n0_; have HB := n1_; clear n0_ n1_; clear hb ho22; have hcv23 := own_string (P := Tryz.prog) Tryz.underlying39 Tryz.underlying5 Tryz.underlying9 (Kd.own_of_R HO244.out)))
            go_ret
            exact ⟨by first | rfl | (simp [errW_none, errW_some] <;> rfl) | (simp [*, errW_none, errW_some] <;> rfl) | (simp [*, errW_none, errW_some]; generalize ByteArray.toList _ = q_; cases q_ <;> rfl), by repeat (first | (with_reducible first | exact HB.out | apply below_alloc | apply pw_below_drewN | apply below_drew1) | exact HB.out)⟩
      · rw [if_neg c6] at H
        exact absurd H (by simp)
    · rw [if_neg c5] at H
      exact absurd H (by simp)
def piece_Up.f (a0 : Int) : Option (Int) := if a0 = 1 then (some (wrap64 (a0 + 8))) else (if a0 = 2 then (some (wrap64 (a0 + 8))) else (if a0 = 3 then (some (wrap64 (a0 + 8))) else (if a0 = 4 then (some (wrap64 (a0 + 8))) else (if a0 = 6 then (some (wrap64 (a0 + 8))) else (if a0 = 7 then (some (wrap64 (a0 + 8))) else (some 0))))))
set_option maxHeartbeats 8000000 in
set_option maxRecDepth 100000 in
theorem piece_Up.calls (a0 : Int) (r : Int) (w : World) (h : piece_Up.f a0 = some r) :
    Calls Tryz.prog 49 #[.int .i64 a0] w fun e w' => e = .returned (.int .i64 r) ∧ Drawn0 w w' := by
  have H : (if a0 = 1 then (some (wrap64 (a0 + 8))) else (if a0 = 2 then (some (wrap64 (a0 + 8))) else (if a0 = 3 then (some (wrap64 (a0 + 8))) else (if a0 = 4 then (some (wrap64 (a0 + 8))) else (if a0 = 6 then (some (wrap64 (a0 + 8))) else (if a0 = 7 then (some (wrap64 (a0 + 8))) else (some 0))))))) = some r := h
  clear h
  by_cases c2 : a0 = 1
  · rw [if_pos c2] at H
    have c2b0 : (a0 == 1) = true := beq_iff_eq.mpr c2
    have c2b1 : (a0 != 1) = false := bne_eq_false_iff_eq.mpr c2
    clear c2
    obtain rfl := Option.some.inj H
    go_enter Tryz.func49, Tryz.ntmps49
    go_wp2
    go_ret
    exact ⟨by first | rfl | (simp; done) | (simp [*]; done), by repeat (first | exact Drawn0.refl _ | apply Drawn0.step)⟩
  · rw [if_neg c2] at H
    have c2b0 : (a0 == 1) = false := beq_eq_false_iff_ne.mpr c2
    have c2b1 : (a0 != 1) = true := bne_iff_ne.mpr c2
    by_cases c3 : a0 = 2
    · rw [if_pos c3] at H
      have c3b0 : (a0 == 2) = true := beq_iff_eq.mpr c3
      have c3b1 : (a0 != 2) = false := bne_eq_false_iff_eq.mpr c3
      clear c3
      obtain rfl := Option.some.inj H
      go_enter Tryz.func49, Tryz.ntmps49
      go_wp2
      go_ret
      exact ⟨by first | rfl | (simp; done) | (simp [*]; done), by repeat (first | exact Drawn0.refl _ | apply Drawn0.step)⟩
    · rw [if_neg c3] at H
      have c3b0 : (a0 == 2) = false := beq_eq_false_iff_ne.mpr c3
      have c3b1 : (a0 != 2) = true := bne_iff_ne.mpr c3
      by_cases c4 : a0 = 3
      · rw [if_pos c4] at H
        have c4b0 : (a0 == 3) = true := beq_iff_eq.mpr c4
        have c4b1 : (a0 != 3) = false := bne_eq_false_iff_eq.mpr c4
        clear c4
        obtain rfl := Option.some.inj H
        go_enter Tryz.func49, Tryz.ntmps49
        go_wp2
        go_ret
        exact ⟨by first | rfl | (simp; done) | (simp [*]; done), by repeat (first | exact Drawn0.refl _ | apply Drawn0.step)⟩
      · rw [if_neg c4] at H
        have c4b0 : (a0 == 3) = false := beq_eq_false_iff_ne.mpr c4
        have c4b1 : (a0 != 3) = true := bne_iff_ne.mpr c4
        by_cases c5 : a0 = 4
        · rw [if_pos c5] at H
          have c5b0 : (a0 == 4) = true := beq_iff_eq.mpr c5
          have c5b1 : (a0 != 4) = false := bne_eq_false_iff_eq.mpr c5
          clear c5
          obtain rfl := Option.some.inj H
          go_enter Tryz.func49, Tryz.ntmps49
          go_wp2
          go_ret
          exact ⟨by first | rfl | (simp; done) | (simp [*]; done), by repeat (first | exact Drawn0.refl _ | apply Drawn0.step)⟩
        · rw [if_neg c5] at H
          have c5b0 : (a0 == 4) = false := beq_eq_false_iff_ne.mpr c5
          have c5b1 : (a0 != 4) = true := bne_iff_ne.mpr c5
          by_cases c6 : a0 = 6
          · rw [if_pos c6] at H
            have c6b0 : (a0 == 6) = true := beq_iff_eq.mpr c6
            have c6b1 : (a0 != 6) = false := bne_eq_false_iff_eq.mpr c6
            clear c6
            obtain rfl := Option.some.inj H
            go_enter Tryz.func49, Tryz.ntmps49
            go_wp2
            go_ret
            exact ⟨by first | rfl | (simp; done) | (simp [*]; done), by repeat (first | exact Drawn0.refl _ | apply Drawn0.step)⟩
          · rw [if_neg c6] at H
            have c6b0 : (a0 == 6) = false := beq_eq_false_iff_ne.mpr c6
            have c6b1 : (a0 != 6) = true := bne_iff_ne.mpr c6
            by_cases c7 : a0 = 7
            · rw [if_pos c7] at H
              have c7b0 : (a0 == 7) = true := beq_iff_eq.mpr c7
              have c7b1 : (a0 != 7) = false := bne_eq_false_iff_eq.mpr c7
              clear c7
              obtain rfl := Option.some.inj H
              go_enter Tryz.func49, Tryz.ntmps49
              go_wp2
              go_ret
              exact ⟨by first | rfl | (simp; done) | (simp [*]; done), by repeat (first | exact Drawn0.refl _ | apply Drawn0.step)⟩
            · rw [if_neg c7] at H
              have c7b0 : (a0 == 7) = false := beq_eq_false_iff_ne.mpr c7
              have c7b1 : (a0 != 7) = true := bne_iff_ne.mpr c7
              obtain rfl := Option.some.inj H
              go_enter Tryz.func49, Tryz.ntmps49
              go_wp2
              go_ret
              exact ⟨by first | rfl | (simp; done) | (simp [*]; done), by repeat (first | exact Drawn0.refl _ | apply Drawn0.step)⟩
end Go.Proofs.YtigenhbmgpfffaaGreatDoor.Pa
