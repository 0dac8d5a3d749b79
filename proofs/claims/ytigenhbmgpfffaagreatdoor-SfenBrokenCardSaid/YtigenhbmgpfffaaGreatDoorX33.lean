import Derived.Test.YtigenhbmgpfffaaGreatDoorX13
import Derived.Test.YtigenhbmgpfffaaGreatDoorX14
import Derived.Test.YtigenhbmgpfffaaGreatDoorX16
namespace Go.Proofs.YtigenhbmgpfffaaGreatDoor.Pa
open Go.RowKit Go.Proofs.YtigenhbmgpfffaaGreatDoorW.PrintWords Go.Proofs.YtigenhbmgpfffaaGreatDoorW.PrintLast Go.Proofs.YtigenhbmgpfffaaGreatDoorW.PrintMore
attribute [local go_sem] max2_int min2_int max_two min_two max_three min_three max_four min_four
set_option linter.unusedVariables false
set_option linter.unusedSimpArgs false
def board_Start.zl : List Int := List.replicate 98 0
theorem board_Start.zl_len : board_Start.zl.length = 98 := by decide
theorem board_Start.zero (w : World) : (zeroValue 28).run Tryz.prog w = .ok (.agg (value_Of.pv board_Start.zl)) w := by
  have h : (Tryz.prog.info? 28).map (·.zero) = some (some (.agg (value_Of.pv board_Start.zl))) := by kernel_rfl
  cases hq : Tryz.prog.info? 28 with
  | none => rw [hq] at h; cases h
  | some i =>
    rw [hq] at h
    have hz : i.zero = some (.agg (value_Of.pv board_Start.zl)) := by simpa using h
    simp [zeroValue, typeInfo, Sem.run, hq, hz]
def board_Start.back (f : Nat) : Int := [2, 3, 4, 5, 8, 5, 4, 3, 2].getD f 0
def board_Start.stepS (f s : Nat) (cs : List Int) : List Int := if s = 0 then (cs.set (9 * f + 8) (board_Start.back f)).set (9 * f + 6) 1 else (cs.set (9 * f) (16 + board_Start.back f)).set (9 * f + 2) 17
def board_Start.side (f : Nat) (cs : List Int) : Nat → List Int
  | 0 => cs
  | 1 => board_Start.stepS f 0 cs
  | _ => board_Start.stepS f 1 (board_Start.stepS f 0 cs)
def board_Start.upto : Nat → List Int
  | 0 => board_Start.zl
  | n + 1 => board_Start.side n (board_Start.upto n) 2
theorem board_Start.stepS_len (f s : Nat) (cs : List Int) : (board_Start.stepS f s cs).length = cs.length := by
  unfold board_Start.stepS
  split <;> simp
theorem board_Start.side_len (f : Nat) (cs : List Int) (i : Nat) : (board_Start.side f cs i).length = cs.length := by
  unfold board_Start.side
  split <;> simp [board_Start.stepS_len]
theorem board_Start.upto_len : ∀ n, (board_Start.upto n).length = 98
  | 0 => board_Start.zl_len
  | n + 1 => by
    show (board_Start.side n (board_Start.upto n) 2).length = 98
    rw [board_Start.side_len, board_Start.upto_len n]
theorem board_Start.blk3 (w : World) (X Y Z : Obj) : (((w.alloc X).alloc Y).alloc Z).heap[w.heap.size]? = some X ∧ (((w.alloc X).alloc Y).alloc Z).heap[w.heap.size + 1]? = some Y ∧ (((w.alloc X).alloc Y).alloc Z).heap[w.heap.size + 2]? = some Z := by
  have e1 : (w.alloc X).heap.size = w.heap.size + 1 := by simp [go_sem]
  have e2 : ((w.alloc X).alloc Y).heap.size = w.heap.size + 2 := by simp [go_sem]
  refine ⟨blk_alloc (blk_alloc (blk_new _ _) _) _, ?_, ?_⟩
  · have e := blk_new (w.alloc X) Y
    rw [e1] at e
    exact blk_alloc e _
  · have e := blk_new ((w.alloc X).alloc Y) Z
    rw [e2] at e
    exact e
def board_Start.startL : List Int := ((((board_Start.upto 9).set 70 6).set 16 7).set 10 22).set 64 23
theorem board_Start.far_calls (rank f s q : Int) (w : World) (gS gF : Nat) (hS : w.heap[gS]? = some (.cells #[.int .i64 s] 3 (0, 0))) (hF : w.heap[gF]? = some (.cells #[.int .i64 f] 3 (0, 0))) (h : set_Square.f f (if s = 1 then rank else wrap64 (8 - rank)) = some q) :
    Calls Tryz.prog 42 #[.int .i64 rank, .pointer (some ⟨gS, 0, none⟩), .pointer (some ⟨gF, 0, none⟩)] w fun e w' => e = .returned (.int .i64 q) ∧ Drawn0 w w' := by
  have cS : w.cell? ⟨gS, 0, none⟩ = some (.int .i64 s) := (blk_cell hS 0).trans rfl
  have cF : w.cell? ⟨gF, 0, none⟩ = some (.int .i64 f) := (blk_cell hF 0).trans rfl
  clear hS hF
  by_cases hs : s = 1
  · rw [if_pos hs] at h
    have c0 : (s == 1) = true := by simpa using hs
    have HH := Aside0.mk h
    clear h hs
    go_enter Tryz.func42, Tryz.ntmps42
    go_wp2_with (first | (go_at_call 20; refine (set_Square.calls _ _ _ _ HH.out).mono ?_; rintro e w' ⟨rfl, ⟨n1, rfl⟩⟩))
    go_ret
    exact ⟨rfl, by repeat (first | exact Drawn0.refl _ | apply Drawn0.step)⟩
  · rw [if_neg hs] at h
    have c0 : (s == 1) = false := by simpa using hs
    have HH := Aside0.mk h
    clear h hs
    go_enter Tryz.func42, Tryz.ntmps42
    go_wp2_with (first | (go_at_call 20; refine (set_Square.calls _ _ _ _ HH.out).mono ?_; rintro e w' ⟨rfl, ⟨n1, rfl⟩⟩))
    go_ret
    exact ⟨rfl, by repeat (first | exact Drawn0.refl _ | apply Drawn0.step)⟩
theorem board_Start.vals : ∀ f : Nat, f < 9 → ∀ i : Nat, i < 2 → set_Square.f (f : Int) (if (i : Int) = 1 then 0 else wrap64 (8 - 0)) = some ((if i = 0 then 9 * f + 8 else 9 * f : Nat) : Int) ∧ set_Square.f (f : Int) (if (i : Int) = 1 then 2 else wrap64 (8 - 2)) = some ((if i = 0 then 9 * f + 6 else 9 * f + 2 : Nat) : Int) ∧ piece_Of.f (i : Int) (board_Start.back f) = some (if i = 0 then board_Start.back f else 16 + board_Start.back f) ∧ piece_Of.f (i : Int) 1 = some (if i = 0 then 1 else 17) := by decide +kernel
theorem board_Start.bk : ∀ f : Nat, f < 9 → (#[.int .i64 2, .int .i64 3, .int .i64 4, .int .i64 5, .int .i64 8, .int .i64 5, .int .i64 4, .int .i64 3, .int .i64 2] : Array Value)[f]? = some (.int .i64 (board_Start.back f)) := by
  intro f hf
  obtain rfl | rfl | rfl | rfl | rfl | rfl | rfl | rfl | rfl : f = 0 ∨ f = 1 ∨ f = 2 ∨ f = 3 ∨ f = 4 ∨ f = 5 ∨ f = 6 ∨ f = 7 ∨ f = 8 := by omega
  all_goals rfl
set_option maxRecDepth 100000 in
set_option maxHeartbeats 8000000 in
theorem board_Start.start_calls (w : World) :
    Calls Tryz.prog 18 #[] w fun e w' => e = .returned (.agg (value_Of.pv board_Start.startL)) ∧ Below w.heap.size w w' := by
  have hz := board_Start.zero
  go_enter Tryz.func18, Tryz.ntmps18
  go_upto_region 3 with (fail)
  obtain ⟨B0, B1, B2⟩ := board_Start.blk3 w (Obj.cells (value_Of.pv board_Start.zl) 28) (Obj.cells (value_Of.pv board_Start.zl) 28) (Obj.cells #[.int .i64 2, .int .i64 3, .int .i64 4, .int .i64 5, .int .i64 8, .int .i64 5, .int .i64 4, .int .i64 3, .int .i64 2] 72)
  have BB : Below w.heap.size w (((w.alloc (Obj.cells (value_Of.pv board_Start.zl) 28)).alloc (Obj.cells (value_Of.pv board_Start.zl) 28)).alloc (Obj.cells #[.int .i64 2, .int .i64 3, .int .i64 4, .int .i64 5, .int .i64 8, .int .i64 5, .int .i64 4, .int .i64 3, .int .i64 2] 72)) := below_alloc (below_alloc (below_alloc (Below.refl _ _) _) _) _
  generalize (((w.alloc (Obj.cells (value_Of.pv board_Start.zl) 28)).alloc (Obj.cells (value_Of.pv board_Start.zl) 28)).alloc (Obj.cells #[.int .i64 2, .int .i64 3, .int .i64 4, .int .i64 5, .int .i64 8, .int .i64 5, .int .i64 4, .int .i64 3, .int .i64 2] 72)) = W at *
  have K0 := Aside0.mk B0
  have K1 := Aside0.mk B1
  have K2 := Aside0.mk B2
  have KB := Aside0.mk BB
  clear B0 B1 B2 BB
  go_wp2
  go_loopg [7] 10 (fun gf s7 wx => ∃ (f : Nat), s7 = .int .i64 f ∧ f ≤ 9 ∧ Aside0 (wx.heap[w.heap.size]? = some (.cells (value_Of.pv board_Start.zl) 28 (0, 0))) ∧ Aside0 (wx.heap[w.heap.size + 1]? = some (.cells (value_Of.pv (board_Start.upto f)) 28 (0, 0))) ∧ Aside0 (wx.heap[w.heap.size + 1 + 1]? = some (.cells #[.int .i64 2, .int .i64 3, .int .i64 4, .int .i64 5, .int .i64 8, .int .i64 5, .int .i64 4, .int .i64 3, .int .i64 2] 72 (0, 0))) ∧ Aside0 (Below w.heap.size w wx) ∧ 10 ≤ gf + f)
  case atStart => exact ⟨0, rfl, by omega, K0, K1, K2, KB, by omega⟩
  case round =>
    clear K0 K1 K2 KB
    obtain ⟨f, rfl, hf, K0, K1, K2, KB, hgf⟩ := hrel
    by_cases hend : f = 9
    · subst hend
      have hl9 := board_Start.upto_len 9
      obtain ⟨cs, hcs⟩ : ∃ cs, cs = board_Start.upto 9 := ⟨_, rfl⟩
      rw [← hcs] at K1 hl9
      have HCS := Aside0.mk hcs
      have HLEN := Aside0.mk hl9
      have s77 : set_Square.f 7 7 = some ((70 : Nat) : Int) := by decide +kernel
      have s17 : set_Square.f 1 7 = some ((16 : Nat) : Int) := by decide +kernel
      have s11 : set_Square.f 1 1 = some ((10 : Nat) : Int) := by decide +kernel
      have s71 : set_Square.f 7 1 = some ((64 : Nat) : Int) := by decide +kernel
      have S77 := Aside0.mk s77
      have S17 := Aside0.mk s17
      have S11 := Aside0.mk s11
      have S71 := Aside0.mk s71
      clear hcs s77 s17 s11 s71 hl9
      go_upto_region 14 with (fail)
      refine wp_region_held_drew (S := fun _ => True) (by kernel_rfl) trivial (fun _ => ?_)
      have n_K0 := Aside0.mk (blk_drew K0.out)
      have n_K1 := Aside0.mk (blk_drew K1.out)
      have n_K2 := Aside0.mk (blk_drew K2.out)
      have n_KB := Aside0.mk (below_drew KB.out)
      clear K0 K1 K2 KB
      have K0 := n_K0
      have K1 := n_K1
      have K2 := n_K2
      have KB := n_KB
      clear n_K0 n_K1 n_K2 n_KB
      refine tk 2 ?_
      refine tk 5 ?_
      refine wpAnyH_ready (rs := [0]) (by kernel_rfl) (by simp) ?_
      refine AllReadyH.cons rfl (fun K hK => ?_) AllReadyH.nil
      show (if Region.wanted ⟨some 31, .call _, _, _, _, none⟩ _ = true then Oper.wp _ ⟨some 31, .call _, _, _, _, none⟩ _ _ _ _ else _)
      go_simp
      refine (set_Square.calls _ _ _ _ S77.out).mono ?_
      rintro e w7 ⟨rfl, hd⟩
      have hb := hd.below
      have n_K0 := Aside0.mk (blk_below K0.out hb)
      have n_K1 := Aside0.mk (blk_below K1.out hb)
      have n_K2 := Aside0.mk (blk_below K2.out hb)
      have n_KB := Aside0.mk (below_step KB.out hb)
      clear K0 K1 K2 KB
      have K0 := n_K0
      have K1 := n_K1
      have K2 := n_K2
      have KB := n_KB
      clear n_K0 n_K1 n_K2 n_KB
      clear hd hb
      refine ko hK ?_
      clear hK K
      refine tk 3 ?_
      refine wpAnyH_ready (rs := [1]) (by kernel_rfl) (by simp) ?_
      refine AllReadyH.cons rfl (fun K hK => ?_) AllReadyH.nil
      show (if Region.wanted ⟨some 32, .call _, _, _, _, none⟩ _ = true then Oper.wp _ ⟨some 32, .call _, _, _, _, none⟩ _ _ _ _ else _)
      go_simp
      refine (set_Square.calls _ _ _ _ S17.out).mono ?_
      rintro e w7 ⟨rfl, hd⟩
      have hb := hd.below
      have n_K0 := Aside0.mk (blk_below K0.out hb)
      have n_K1 := Aside0.mk (blk_below K1.out hb)
      have n_K2 := Aside0.mk (blk_below K2.out hb)
      have n_KB := Aside0.mk (below_step KB.out hb)
      clear K0 K1 K2 KB
      have K0 := n_K0
      have K1 := n_K1
      have K2 := n_K2
      have KB := n_KB
      clear n_K0 n_K1 n_K2 n_KB
      clear hd hb
      refine ko hK ?_
      clear hK K
      refine wpAnyH_ready (rs := [4]) (by kernel_rfl) (by simp) ?_
      refine AllReadyH.cons rfl (fun K hK => ?_) AllReadyH.nil
      show (if Region.wanted ⟨none, .store _ (.tmp 34) _, _, _, _, none⟩ _ = true then Oper.wp _ ⟨none, .store _ (.tmp 34) _, _, _, _, none⟩ _ _ _ _ else _)
      have e0 := (blk_cell K1.out 70).trans (value_Of.pv_get _ 70 (by have := HLEN.out; (try simp only [List.length_set]); omega))
      have f0 := blk_frozen K1.out 70
      go_simp
      clear e0 f0
      refine ko hK ?_
      clear hK K
      have n_K0 := Aside0.mk (blk_far K0.out (p := ⟨w.heap.size + 1, 70, none⟩) (by show w.heap.size ≠ w.heap.size + 1; omega) (.int .i8 6))
      have n_K1 := Aside0.mk ((blk_set K1.out 70 (.int .i8 6)).trans (by rw [value_Of.pv_set]))
      have n_K2 := Aside0.mk (blk_far K2.out (p := ⟨w.heap.size + 1, 70, none⟩) (by show w.heap.size + 1 + 1 ≠ w.heap.size + 1; omega) (.int .i8 6))
      have n_KB := Aside0.mk ((KB.out).setCell (p := ⟨w.heap.size + 1, 70, none⟩) (Nat.le_succ _) (.int .i8 6))
      clear K0 K1 K2 KB
      have K0 := n_K0
      have K1 := n_K1
      have K2 := n_K2
      have KB := n_KB
      clear n_K0 n_K1 n_K2 n_KB
      refine tk 6 ?_
      refine wpAnyH_ready (rs := [7]) (by kernel_rfl) (by simp) ?_
      refine AllReadyH.cons rfl (fun K hK => ?_) AllReadyH.nil
      show (if Region.wanted ⟨none, .store _ (.tmp 36) _, _, _, _, none⟩ _ = true then Oper.wp _ ⟨none, .store _ (.tmp 36) _, _, _, _, none⟩ _ _ _ _ else _)
      have e0 := (blk_cell K1.out 16).trans (value_Of.pv_get _ 16 (by have := HLEN.out; (try simp only [List.length_set]); omega))
      have f0 := blk_frozen K1.out 16
      go_simp
      clear e0 f0
      refine ko hK ?_
      clear hK K
      have n_K0 := Aside0.mk (blk_far K0.out (p := ⟨w.heap.size + 1, 16, none⟩) (by show w.heap.size ≠ w.heap.size + 1; omega) (.int .i8 7))
      have n_K1 := Aside0.mk ((blk_set K1.out 16 (.int .i8 7)).trans (by rw [value_Of.pv_set]))
      have n_K2 := Aside0.mk (blk_far K2.out (p := ⟨w.heap.size + 1, 16, none⟩) (by show w.heap.size + 1 + 1 ≠ w.heap.size + 1; omega) (.int .i8 7))
      have n_KB := Aside0.mk ((KB.out).setCell (p := ⟨w.heap.size + 1, 16, none⟩) (Nat.le_succ _) (.int .i8 7))
      clear K0 K1 K2 KB
      have K0 := n_K0
      have K1 := n_K1
      have K2 := n_K2
      have KB := n_KB
      clear n_K0 n_K1 n_K2 n_KB
      refine wpAnyH_done (by kernel_rfl) ?_ _
      go_wp2
      refine wp_region_held_drew (S := fun _ => True) (by kernel_rfl) trivial (fun _ => ?_)
      have n_K0 := Aside0.mk (blk_drew K0.out)
      have n_K1 := Aside0.mk (blk_drew K1.out)
      have n_K2 := Aside0.mk (blk_drew K2.out)
      have n_KB := Aside0.mk (below_drew KB.out)
      clear K0 K1 K2 KB
      have K0 := n_K0
      have K1 := n_K1
      have K2 := n_K2
      have KB := n_KB
      clear n_K0 n_K1 n_K2 n_KB
      refine tk 2 ?_
      refine tk 5 ?_
      refine wpAnyH_ready (rs := [0]) (by kernel_rfl) (by simp) ?_
      refine AllReadyH.cons rfl (fun K hK => ?_) AllReadyH.nil
      show (if Region.wanted ⟨some 37, .call _, _, _, _, none⟩ _ = true then Oper.wp _ ⟨some 37, .call _, _, _, _, none⟩ _ _ _ _ else _)
      go_simp
      refine (set_Square.calls _ _ _ _ S11.out).mono ?_
      rintro e w7 ⟨rfl, hd⟩
      have hb := hd.below
      have n_K0 := Aside0.mk (blk_below K0.out hb)
      have n_K1 := Aside0.mk (blk_below K1.out hb)
      have n_K2 := Aside0.mk (blk_below K2.out hb)
      have n_KB := Aside0.mk (below_step KB.out hb)
      clear K0 K1 K2 KB
      have K0 := n_K0
      have K1 := n_K1
      have K2 := n_K2
      have KB := n_KB
      clear n_K0 n_K1 n_K2 n_KB
      clear hd hb
      refine ko hK ?_
      clear hK K
      refine tk 3 ?_
      refine wpAnyH_ready (rs := [1]) (by kernel_rfl) (by simp) ?_
      refine AllReadyH.cons rfl (fun K hK => ?_) AllReadyH.nil
      show (if Region.wanted ⟨some 38, .call _, _, _, _, none⟩ _ = true then Oper.wp _ ⟨some 38, .call _, _, _, _, none⟩ _ _ _ _ else _)
      go_simp
      refine (set_Square.calls _ _ _ _ S71.out).mono ?_
      rintro e w7 ⟨rfl, hd⟩
      have hb := hd.below
      have n_K0 := Aside0.mk (blk_below K0.out hb)
      have n_K1 := Aside0.mk (blk_below K1.out hb)
      have n_K2 := Aside0.mk (blk_below K2.out hb)
      have n_KB := Aside0.mk (below_step KB.out hb)
      clear K0 K1 K2 KB
      have K0 := n_K0
      have K1 := n_K1
      have K2 := n_K2
      have KB := n_KB
      clear n_K0 n_K1 n_K2 n_KB
      clear hd hb
      refine ko hK ?_
      clear hK K
      refine wpAnyH_ready (rs := [4]) (by kernel_rfl) (by simp) ?_
      refine AllReadyH.cons rfl (fun K hK => ?_) AllReadyH.nil
      show (if Region.wanted ⟨none, .store _ (.tmp 40) _, _, _, _, none⟩ _ = true then Oper.wp _ ⟨none, .store _ (.tmp 40) _, _, _, _, none⟩ _ _ _ _ else _)
      have e0 := (blk_cell K1.out 10).trans (value_Of.pv_get _ 10 (by have := HLEN.out; (try simp only [List.length_set]); omega))
      have f0 := blk_frozen K1.out 10
      go_simp
      clear e0 f0
      refine ko hK ?_
      clear hK K
      have n_K0 := Aside0.mk (blk_far K0.out (p := ⟨w.heap.size + 1, 10, none⟩) (by show w.heap.size ≠ w.heap.size + 1; omega) (.int .i8 22))
      have n_K1 := Aside0.mk ((blk_set K1.out 10 (.int .i8 22)).trans (by rw [value_Of.pv_set]))
      have n_K2 := Aside0.mk (blk_far K2.out (p := ⟨w.heap.size + 1, 10, none⟩) (by show w.heap.size + 1 + 1 ≠ w.heap.size + 1; omega) (.int .i8 22))
      have n_KB := Aside0.mk ((KB.out).setCell (p := ⟨w.heap.size + 1, 10, none⟩) (Nat.le_succ _) (.int .i8 22))
      clear K0 K1 K2 KB
      have K0 := n_K0
      have K1 := n_K1
      have K2 := n_K2
      have KB := n_KB
      clear n_K0 n_K1 n_K2 n_KB
      refine tk 6 ?_
      refine wpAnyH_ready (rs := [7]) (by kernel_rfl) (by simp) ?_
      refine AllReadyH.cons rfl (fun K hK => ?_) AllReadyH.nil
      show (if Region.wanted ⟨none, .store _ (.tmp 42) _, _, _, _, none⟩ _ = true then Oper.wp _ ⟨none, .store _ (.tmp 42) _, _, _, _, none⟩ _ _ _ _ else _)
      have e0 := (blk_cell K1.out 64).trans (value_Of.pv_get _ 64 (by have := HLEN.out; (try simp only [List.length_set]); omega))
      have f0 := blk_frozen K1.out 64
      go_simp
      clear e0 f0
      refine ko hK ?_
      clear hK K
      have n_K0 := Aside0.mk (blk_far K0.out (p := ⟨w.heap.size + 1, 64, none⟩) (by show w.heap.size ≠ w.heap.size + 1; omega) (.int .i8 23))
      have n_K1 := Aside0.mk ((blk_set K1.out 64 (.int .i8 23)).trans (by rw [value_Of.pv_set]))
      have n_K2 := Aside0.mk (blk_far K2.out (p := ⟨w.heap.size + 1, 64, none⟩) (by show w.heap.size + 1 + 1 ≠ w.heap.size + 1; omega) (.int .i8 23))
      have n_KB := Aside0.mk ((KB.out).setCell (p := ⟨w.heap.size + 1, 64, none⟩) (Nat.le_succ _) (.int .i8 23))
      clear K0 K1 K2 KB
      have K0 := n_K0
      have K1 := n_K1
      have K2 := n_K2
      have KB := n_KB
      clear n_K0 n_K1 n_K2 n_KB
      refine wpAnyH_done (by kernel_rfl) ?_ _
      obtain ⟨m, hmm⟩ : ∃ m, (((cs.set 70 6).set 16 7).set 10 22).set 64 23 = m := ⟨_, rfl⟩
      have HMM := Aside0.mk hmm
      have K1n := K1.out
      rw [hmm] at K1n
      have K1m := Aside0.mk K1n
      clear hmm K1n K1
      have K1 := K1m
      clear K1m
      have hm : m.length = 98 := by rw [← HMM.out]; simp only [List.length_set]; exact HLEN.out
      go_wp2_with (first | ((with_reducible refine gate_dst (N := 43) rfl ?_); refine value_Of.load rfl 28 (.tmp 1) rfl rfl K1.out Tryz.underlying28 rfl value_Of.infoP (by omega) ?_; rw [show (m.drop 0).take 98 = m by rw [List.drop_zero, List.take_of_length_le (by omega)]]) | ((with_reducible refine gate_store (t := 28) (p := 0) (v := .tmp 43) rfl ?_); refine value_Of.store rfl 28 (.tmp 0) (.tmp 43) rfl rfl rfl K0.out (by rw [value_Of.pv_size, board_Start.zl_len]) hm value_Of.infoP ?_; intro W3 s1 s2 s3; have S1 := Aside0.mk s1; have S2 := Aside0.mk (s2 _ _ (Nat.le_refl _) KB.out); clear s1 s2 s3))
      refine bodyPost_ret (results_cell_row (p := 0) (ty := 28) rfl _ _ w.heap.size 28 (value_Of.pv m) (0, 0) _ rfl S1.out Tryz.underlying28 rfl (by rw [value_Of.infoP, value_Of.pv_size, hm])) rfl ?_
      exact ⟨by rw [← HMM.out, HCS.out]; rfl, S2.out⟩
    · have b0 : decide ((f : Int) < 9) = true := decide_eq_true (by omega)
      obtain ⟨g1, rfl⟩ : ∃ g1, gk = g1 + 1 := ⟨gk - 1, by omega⟩
      have l0 := blk_lt K0.out
      have l1 := blk_lt K1.out
      have l2 := blk_lt K2.out
      have ew : IntKind.i64.wrap ((f : Int) + 1) = (f : Int) + 1 := IntWalk.i64_in _ (by omega)
      go_upto_region 6 with (fail)
      have n0 := Aside0.mk (blk_alloc K0.out (Obj.cells #[.int .i64 (f : Int)] 3))
      have n1 := Aside0.mk (blk_alloc K1.out (Obj.cells #[.int .i64 (f : Int)] 3))
      have n2 := Aside0.mk (blk_alloc K2.out (Obj.cells #[.int .i64 (f : Int)] 3))
      have nB := Aside0.mk (below_alloc KB.out (Obj.cells #[.int .i64 (f : Int)] 3))
      have KF := Aside0.mk (blk_new wr (Obj.cells #[.int .i64 (f : Int)] 3))
      have HGF : Aside0 (w.heap.size + 1 + 1 < wr.heap.size) := ⟨l2⟩
      clear K0 K1 K2 KB l0 l1 l2
      have K0 := n0
      have K1 := n1
      have K2 := n2
      have KB := nB
      clear n0 n1 n2 nB
      generalize wr.alloc (Obj.cells #[.int .i64 (f : Int)] 3) = W5 at *
      generalize wr.heap.size = gF at *
      go_wp2
      go_loopg [10] 3 (fun gf s10 wx => ∃ (i : Nat), s10 = .int .i64 i ∧ i ≤ 2 ∧ Aside0 (wx.heap[w.heap.size]? = some (.cells (value_Of.pv board_Start.zl) 28 (0, 0))) ∧ Aside0 (wx.heap[w.heap.size + 1]? = some (.cells (value_Of.pv (board_Start.side f (board_Start.upto f) i)) 28 (0, 0))) ∧ Aside0 (wx.heap[w.heap.size + 1 + 1]? = some (.cells #[.int .i64 2, .int .i64 3, .int .i64 4, .int .i64 5, .int .i64 8, .int .i64 5, .int .i64 4, .int .i64 3, .int .i64 2] 72 (0, 0))) ∧ Aside0 (Below w.heap.size w wx) ∧ Aside0 (wx.heap[gF]? = some (.cells #[.int .i64 (f : Int)] 3 (0, 0))) ∧ 3 ≤ gf + i)
      case atStart => exact ⟨0, rfl, by omega, K0, K1, K2, KB, KF, by omega⟩
      case round =>
        clear K0 K1 K2 KB KF
        obtain ⟨i, rfl, hi, K0, K1, K2, KB, KF, hgf2⟩ := hrel
        by_cases hi2 : i = 2
        · subst hi2
          go_wp2
          have ew : IntKind.i64.wrap ((f : Int) + 1) = (f : Int) + 1 := IntWalk.i64_in _ (by omega)
          go_roundg g1
          case measure => omega
          case rel => exact ⟨f + 1, by first | rfl | simp, by omega, K0, K1, K2, KB, by omega⟩
        · have c0 : decide ((i : Int) < 2) = true := decide_eq_true (by omega)
          obtain ⟨g2, rfl⟩ : ∃ g2, gk = g2 + 1 := ⟨gk - 1, by omega⟩
          have l1 := blk_lt K1.out
          have lF := blk_lt KF.out
          have l2 := blk_lt K2.out
          have ew : IntKind.i64.wrap ((f : Int) + 1) = (f : Int) + 1 := IntWalk.i64_in _ (by omega)
          have hvals := board_Start.vals f (by omega) i (by omega)
          obtain ⟨qa, hqa⟩ : ∃ qa : Nat, qa = (if i = 0 then 9 * f + 8 else 9 * f) := ⟨_, rfl⟩
          obtain ⟨qb, hqb⟩ : ∃ qb : Nat, qb = (if i = 0 then 9 * f + 6 else 9 * f + 2) := ⟨_, rfl⟩
          obtain ⟨va, hva⟩ : ∃ va : Int, va = (if i = 0 then board_Start.back f else 16 + board_Start.back f) := ⟨_, rfl⟩
          obtain ⟨vb, hvb⟩ : ∃ vb : Int, vb = (if i = 0 then 1 else 17) := ⟨_, rfl⟩
          rw [← hqa, ← hqb, ← hva, ← hvb] at hvals
          obtain ⟨hA1, hB1, hA2, hB2⟩ := hvals
          have hbk := board_Start.bk f (by omega)
          have HQA := Aside0.mk hA1
          have HQB := Aside0.mk hB1
          have HVA := Aside0.mk hA2
          have HVB := Aside0.mk hB2
          have HBK := Aside0.mk hbk
          have hqa81 : qa < 81 := by rw [hqa]; split <;> omega
          have hqb81 : qb < 81 := by rw [hqb]; split <;> omega
          have hnext : board_Start.side f (board_Start.upto f) (i + 1) = ((board_Start.side f (board_Start.upto f) i).set qa va).set qb vb := by
            obtain rfl | rfl : i = 0 ∨ i = 1 := by omega
            · rw [hqa, hqb, hva, hvb]; rfl
            · rw [hqa, hqb, hva, hvb]; rfl
          have hlen : (board_Start.side f (board_Start.upto f) i).length = 98 := by rw [board_Start.side_len, board_Start.upto_len]
          have HNX := Aside0.mk hnext
          have HLEN := Aside0.mk hlen
          have x0 : (0 ≤ (f : Int) ∧ (f : Int) < 9) = True := eq_true (by omega)
          have x1 : (0 ≤ (qa : Int) ∧ (qa : Int) < 81) = True := eq_true (by omega)
          have x2 : (0 ≤ (qb : Int) ∧ (qb : Int) < 81) = True := eq_true (by omega)
          have x3 : ((f : Int) < 9) = True := eq_true (by omega)
          have x4 : ((qa : Int) < 81) = True := eq_true (by omega)
          have x5 : ((qb : Int) < 81) = True := eq_true (by omega)
          clear hA1 hB1 hA2 hB2 hbk hqa hqb hva hvb hnext hlen
          go_upto_region 10 with (fail)
          have n0 := Aside0.mk (blk_alloc K0.out (Obj.cells #[.int .i64 (i : Int)] 3))
          have n1 := Aside0.mk (blk_alloc K1.out (Obj.cells #[.int .i64 (i : Int)] 3))
          have n2 := Aside0.mk (blk_alloc K2.out (Obj.cells #[.int .i64 (i : Int)] 3))
          have n3 := Aside0.mk (blk_alloc KF.out (Obj.cells #[.int .i64 (i : Int)] 3))
          have nB := Aside0.mk (below_alloc KB.out (Obj.cells #[.int .i64 (i : Int)] 3))
          have KS := Aside0.mk (blk_new wr (Obj.cells #[.int .i64 (i : Int)] 3))
          have HGS : Aside0 (w.heap.size + 1 + 1 < wr.heap.size) := ⟨l2⟩
          clear K0 K1 K2 KF KB l1 l2 lF
          have K0 := n0
          have K1 := n1
          have K2 := n2
          have KF := n3
          have KB := nB
          clear n0 n1 n2 n3 nB
          generalize wr.alloc (Obj.cells #[.int .i64 (i : Int)] 3) = W6 at *
          generalize wr.heap.size = gS at *
          go_cut [] (fun wx => Aside0 (wx.heap[w.heap.size]? = some (.cells (value_Of.pv board_Start.zl) 28 (0, 0))) ∧ Aside0 (wx.heap[w.heap.size + 1]? = some (.cells (value_Of.pv ((board_Start.side f (board_Start.upto f) i).set qa va)) 28 (0, 0))) ∧ Aside0 (wx.heap[w.heap.size + 1 + 1]? = some (.cells #[.int .i64 2, .int .i64 3, .int .i64 4, .int .i64 5, .int .i64 8, .int .i64 5, .int .i64 4, .int .i64 3, .int .i64 2] 72 (0, 0))) ∧ Aside0 (Below w.heap.size w wx) ∧ Aside0 (wx.heap[gF]? = some (.cells #[.int .i64 (f : Int)] 3 (0, 0))) ∧ Aside0 (wx.heap[gS]? = some (.cells #[.int .i64 (i : Int)] 3 (0, 0))))
          case first =>
            refine wp_region_held_drew (S := fun _ => True) (by kernel_rfl) trivial (fun _ => ?_)
            have n_K0 := Aside0.mk (blk_drew K0.out)
            have n_K1 := Aside0.mk (blk_drew K1.out)
            have n_K2 := Aside0.mk (blk_drew K2.out)
            have n_KB := Aside0.mk (below_drew KB.out)
            have n_KF := Aside0.mk (blk_drew KF.out)
            have n_KS := Aside0.mk (blk_drew KS.out)
            clear K0 K1 K2 KB KF KS
            have K0 := n_K0
            have K1 := n_K1
            have K2 := n_K2
            have KB := n_KB
            have KF := n_KF
            have KS := n_KS
            clear n_K0 n_K1 n_K2 n_KB n_KF n_KS
            refine tk 0 ?_
            refine tk 7 ?_
            refine wpAnyH_ready (rs := [1, 2, 3]) (by kernel_rfl) (by simp) ?_
            refine AllReadyH.cons rfl (fun K hK => ?_) ?_
            · show (if Region.wanted ⟨some 15, .call _, _, _, _, none⟩ _ = true then Oper.wp _ ⟨some 15, .call _, _, _, _, none⟩ _ _ _ _ else _)
              go_simp
              refine (board_Start.far_calls _ _ _ _ _ gS gF KS.out KF.out HQA.out).mono ?_
              rintro e w7 ⟨rfl, hd⟩
              have hb := hd.below
              have n_K0 := Aside0.mk (blk_below K0.out hb)
              have n_K1 := Aside0.mk (blk_below K1.out hb)
              have n_K2 := Aside0.mk (blk_below K2.out hb)
              have n_KB := Aside0.mk (below_step KB.out hb)
              have n_KF := Aside0.mk (blk_below KF.out hb)
              have n_KS := Aside0.mk (blk_below KS.out hb)
              clear K0 K1 K2 KB KF KS
              have K0 := n_K0
              have K1 := n_K1
              have K2 := n_K2
              have KB := n_KB
              have KF := n_KF
              have KS := n_KS
              clear n_K0 n_K1 n_K2 n_KB n_KF n_KS
              clear hd hb
              refine ko hK ?_
              clear hK K
              refine wpAnyH_ready (rs := [2, 3]) (by kernel_rfl) (by simp) ?_
              refine AllReadyH.cons rfl (fun K hK => ?_) ?_
              · show (if Region.wanted ⟨some 16, .load _ (.tmp 4), _, _, _, none⟩ _ = true then Oper.wp _ ⟨some 16, .load _ (.tmp 4), _, _, _, none⟩ _ _ _ _ else _)
                have e0 := (blk_cell KS.out 0).trans (show _ = some (Value.int .i64 (i : Int)) from rfl)
                go_simp
                clear e0
                refine ko hK ?_
                clear hK K
                refine wpAnyH_ready (rs := [3]) (by kernel_rfl) (by simp) ?_
                refine AllReadyH.cons rfl (fun K hK => ?_) AllReadyH.nil
                show (if Region.wanted ⟨some 17, .load _ (.tmp 3), _, _, _, none⟩ _ = true then Oper.wp _ ⟨some 17, .load _ (.tmp 3), _, _, _, none⟩ _ _ _ _ else _)
                have e0 := (blk_cell KF.out 0).trans (show _ = some (Value.int .i64 (f : Int)) from rfl)
                go_simp
                clear e0
                refine ko hK ?_
                clear hK K
                refine tk 4 ?_
                refine wpAnyH_ready (rs := [5]) (by kernel_rfl) (by simp) ?_
                refine AllReadyH.cons rfl (fun K hK => ?_) AllReadyH.nil
                show (if Region.wanted ⟨some 19, .load _ (.tmp 18), _, _, _, none⟩ _ = true then Oper.wp _ ⟨some 19, .load _ (.tmp 18), _, _, _, none⟩ _ _ _ _ else _)
                have e0 := (blk_cell K2.out f).trans (show _ = some (Value.int .i64 (board_Start.back f)) from HBK.out)
                go_simp
                clear e0
                refine ko hK ?_
                clear hK K
                refine wpAnyH_ready (rs := [6]) (by kernel_rfl) (by simp) ?_
                refine AllReadyH.cons rfl (fun K hK => ?_) AllReadyH.nil
                show (if Region.wanted ⟨some 20, .call _, _, _, _, none⟩ _ = true then Oper.wp _ ⟨some 20, .call _, _, _, _, none⟩ _ _ _ _ else _)
                go_simp
                refine (piece_Of.calls _ _ _ _ HVA.out).mono ?_
                rintro e w7 ⟨rfl, hd⟩
                have hb := hd.below
                have n_K0 := Aside0.mk (blk_below K0.out hb)
                have n_K1 := Aside0.mk (blk_below K1.out hb)
                have n_K2 := Aside0.mk (blk_below K2.out hb)
                have n_KB := Aside0.mk (below_step KB.out hb)
                have n_KF := Aside0.mk (blk_below KF.out hb)
                have n_KS := Aside0.mk (blk_below KS.out hb)
                clear K0 K1 K2 KB KF KS
                have K0 := n_K0
                have K1 := n_K1
                have K2 := n_K2
                have KB := n_KB
                have KF := n_KF
                have KS := n_KS
                clear n_K0 n_K1 n_K2 n_KB n_KF n_KS
                clear hd hb
                refine ko hK ?_
                clear hK K
                refine tk 8 ?_
                refine wpAnyH_ready (rs := [9]) (by kernel_rfl) (by simp) ?_
                refine AllReadyH.cons rfl (fun K hK => ?_) AllReadyH.nil
                show (if Region.wanted ⟨none, .store _ (.tmp 22) (.tmp 20), _, _, _, none⟩ _ = true then Oper.wp _ ⟨none, .store _ (.tmp 22) (.tmp 20), _, _, _, none⟩ _ _ _ _ else _)
                have e0 := (blk_cell K1.out qa).trans (value_Of.pv_get _ qa (by have := HLEN.out; (try simp only [List.length_set]); omega))
                have f0 := blk_frozen K1.out qa
                go_simp
                clear e0 f0
                refine ko hK ?_
                clear hK K
                have n_K0 := Aside0.mk (blk_far K0.out (p := ⟨w.heap.size + 1, qa, none⟩) (by show w.heap.size ≠ w.heap.size + 1; omega) (.int .i8 va))
                have n_K1 := Aside0.mk ((blk_set K1.out qa (.int .i8 va)).trans (by rw [value_Of.pv_set]))
                have n_K2 := Aside0.mk (blk_far K2.out (p := ⟨w.heap.size + 1, qa, none⟩) (by show w.heap.size + 1 + 1 ≠ w.heap.size + 1; omega) (.int .i8 va))
                have n_KB := Aside0.mk ((KB.out).setCell (p := ⟨w.heap.size + 1, qa, none⟩) (Nat.le_succ _) (.int .i8 va))
                have n_KF := Aside0.mk (blk_far KF.out (p := ⟨w.heap.size + 1, qa, none⟩) (by show gF ≠ w.heap.size + 1; have := HGF.out; omega) (.int .i8 va))
                have n_KS := Aside0.mk (blk_far KS.out (p := ⟨w.heap.size + 1, qa, none⟩) (by show gS ≠ w.heap.size + 1; have := HGS.out; omega) (.int .i8 va))
                clear K0 K1 K2 KB KF KS
                have K0 := n_K0
                have K1 := n_K1
                have K2 := n_K2
                have KB := n_KB
                have KF := n_KF
                have KS := n_KS
                clear n_K0 n_K1 n_K2 n_KB n_KF n_KS
                refine wpAnyH_done (by kernel_rfl) ?_ _
                go_wp2
                go_meet
                exact ⟨K0, K1, K2, KB, KF, KS⟩
              refine AllReadyH.cons rfl (fun K hK => ?_) AllReadyH.nil
              show (if Region.wanted ⟨some 17, .load _ (.tmp 3), _, _, _, none⟩ _ = true then Oper.wp _ ⟨some 17, .load _ (.tmp 3), _, _, _, none⟩ _ _ _ _ else _)
              have e0 := (blk_cell KF.out 0).trans (show _ = some (Value.int .i64 (f : Int)) from rfl)
              go_simp
              clear e0
              refine ko hK ?_
              clear hK K
              refine tk 4 ?_
              refine wpAnyH_ready (rs := [2, 5]) (by kernel_rfl) (by simp) ?_
              refine AllReadyH.cons rfl (fun K hK => ?_) ?_
              · show (if Region.wanted ⟨some 16, .load _ (.tmp 4), _, _, _, none⟩ _ = true then Oper.wp _ ⟨some 16, .load _ (.tmp 4), _, _, _, none⟩ _ _ _ _ else _)
                have e0 := (blk_cell KS.out 0).trans (show _ = some (Value.int .i64 (i : Int)) from rfl)
                go_simp
                clear e0
                refine ko hK ?_
                clear hK K
                refine wpAnyH_ready (rs := [5]) (by kernel_rfl) (by simp) ?_
                refine AllReadyH.cons rfl (fun K hK => ?_) AllReadyH.nil
                show (if Region.wanted ⟨some 19, .load _ (.tmp 18), _, _, _, none⟩ _ = true then Oper.wp _ ⟨some 19, .load _ (.tmp 18), _, _, _, none⟩ _ _ _ _ else _)
                have e0 := (blk_cell K2.out f).trans (show _ = some (Value.int .i64 (board_Start.back f)) from HBK.out)
                go_simp
                clear e0
                refine ko hK ?_
                clear hK K
                refine wpAnyH_ready (rs := [6]) (by kernel_rfl) (by simp) ?_
                refine AllReadyH.cons rfl (fun K hK => ?_) AllReadyH.nil
                show (if Region.wanted ⟨some 20, .call _, _, _, _, none⟩ _ = true then Oper.wp _ ⟨some 20, .call _, _, _, _, none⟩ _ _ _ _ else _)
                go_simp
                refine (piece_Of.calls _ _ _ _ HVA.out).mono ?_
                rintro e w7 ⟨rfl, hd⟩
                have hb := hd.below
                have n_K0 := Aside0.mk (blk_below K0.out hb)
                have n_K1 := Aside0.mk (blk_below K1.out hb)
                have n_K2 := Aside0.mk (blk_below K2.out hb)
                have n_KB := Aside0.mk (below_step KB.out hb)
                have n_KF := Aside0.mk (blk_below KF.out hb)
                have n_KS := Aside0.mk (blk_below KS.out hb)
                clear K0 K1 K2 KB KF KS
                have K0 := n_K0
                have K1 := n_K1
                have K2 := n_K2
                have KB := n_KB
                have KF := n_KF
                have KS := n_KS
                clear n_K0 n_K1 n_K2 n_KB n_KF n_KS
                clear hd hb
                refine ko hK ?_
                clear hK K
                refine tk 8 ?_
                refine wpAnyH_ready (rs := [9]) (by kernel_rfl) (by simp) ?_
                refine AllReadyH.cons rfl (fun K hK => ?_) AllReadyH.nil
                show (if Region.wanted ⟨none, .store _ (.tmp 22) (.tmp 20), _, _, _, none⟩ _ = true then Oper.wp _ ⟨none, .store _ (.tmp 22) (.tmp 20), _, _, _, none⟩ _ _ _ _ else _)
                have e0 := (blk_cell K1.out qa).trans (value_Of.pv_get _ qa (by have := HLEN.out; (try simp only [List.length_set]); omega))
                have f0 := blk_frozen K1.out qa
                go_simp
                clear e0 f0
                refine ko hK ?_
                clear hK K
                have n_K0 := Aside0.mk (blk_far K0.out (p := ⟨w.heap.size + 1, qa, none⟩) (by show w.heap.size ≠ w.heap.size + 1; omega) (.int .i8 va))
                have n_K1 := Aside0.mk ((blk_set K1.out qa (.int .i8 va)).trans (by rw [value_Of.pv_set]))
                have n_K2 := Aside0.mk (blk_far K2.out (p := ⟨w.heap.size + 1, qa, none⟩) (by show w.heap.size + 1 + 1 ≠ w.heap.size + 1; omega) (.int .i8 va))
                have n_KB := Aside0.mk ((KB.out).setCell (p := ⟨w.heap.size + 1, qa, none⟩) (Nat.le_succ _) (.int .i8 va))
                have n_KF := Aside0.mk (blk_far KF.out (p := ⟨w.heap.size + 1, qa, none⟩) (by show gF ≠ w.heap.size + 1; have := HGF.out; omega) (.int .i8 va))
                have n_KS := Aside0.mk (blk_far KS.out (p := ⟨w.heap.size + 1, qa, none⟩) (by show gS ≠ w.heap.size + 1; have := HGS.out; omega) (.int .i8 va))
                clear K0 K1 K2 KB KF KS
                have K0 := n_K0
                have K1 := n_K1
                have K2 := n_K2
                have KB := n_KB
                have KF := n_KF
                have KS := n_KS
                clear n_K0 n_K1 n_K2 n_KB n_KF n_KS
                refine wpAnyH_done (by kernel_rfl) ?_ _
                go_wp2
                go_meet
                exact ⟨K0, K1, K2, KB, KF, KS⟩
              refine AllReadyH.cons rfl (fun K hK => ?_) AllReadyH.nil
              show (if Region.wanted ⟨some 19, .load _ (.tmp 18), _, _, _, none⟩ _ = true then Oper.wp _ ⟨some 19, .load _ (.tmp 18), _, _, _, none⟩ _ _ _ _ else _)
              have e0 := (blk_cell K2.out f).trans (show _ = some (Value.int .i64 (board_Start.back f)) from HBK.out)
              go_simp
              clear e0
              refine ko hK ?_
              clear hK K
              refine wpAnyH_ready (rs := [2]) (by kernel_rfl) (by simp) ?_
              refine AllReadyH.cons rfl (fun K hK => ?_) AllReadyH.nil
              show (if Region.wanted ⟨some 16, .load _ (.tmp 4), _, _, _, none⟩ _ = true then Oper.wp _ ⟨some 16, .load _ (.tmp 4), _, _, _, none⟩ _ _ _ _ else _)
              have e0 := (blk_cell KS.out 0).trans (show _ = some (Value.int .i64 (i : Int)) from rfl)
              go_simp
              clear e0
              refine ko hK ?_
              clear hK K
              refine wpAnyH_ready (rs := [6]) (by kernel_rfl) (by simp) ?_
              refine AllReadyH.cons rfl (fun K hK => ?_) AllReadyH.nil
              show (if Region.wanted ⟨some 20, .call _, _, _, _, none⟩ _ = true then Oper.wp _ ⟨some 20, .call _, _, _, _, none⟩ _ _ _ _ else _)
              go_simp
              refine (piece_Of.calls _ _ _ _ HVA.out).mono ?_
              rintro e w7 ⟨rfl, hd⟩
              have hb := hd.below
              have n_K0 := Aside0.mk (blk_below K0.out hb)
              have n_K1 := Aside0.mk (blk_below K1.out hb)
              have n_K2 := Aside0.mk (blk_below K2.out hb)
              have n_KB := Aside0.mk (below_step KB.out hb)
              have n_KF := Aside0.mk (blk_below KF.out hb)
              have n_KS := Aside0.mk (blk_below KS.out hb)
              clear K0 K1 K2 KB KF KS
              have K0 := n_K0
              have K1 := n_K1
              have K2 := n_K2
              have KB := n_KB
              have KF := n_KF
              have KS := n_KS
              clear n_K0 n_K1 n_K2 n_KB n_KF n_KS
              clear hd hb
              refine ko hK ?_
              clear hK K
              refine tk 8 ?_
              refine wpAnyH_ready (rs := [9]) (by kernel_rfl) (by simp) ?_
              refine AllReadyH.cons rfl (fun K hK => ?_) AllReadyH.nil
              show (if Region.wanted ⟨none, .store _ (.tmp 22) (.tmp 20), _, _, _, none⟩ _ = true then Oper.wp _ ⟨none, .store _ (.tmp 22) (.tmp 20), _, _, _, none⟩ _ _ _ _ else _)
              have e0 := (blk_cell K1.out qa).trans (value_Of.pv_get _ qa (by have := HLEN.out; (try simp only [List.length_set]); omega))
              have f0 := blk_frozen K1.out qa
              go_simp
              clear e0 f0
              refine ko hK ?_
              clear hK K
              have n_K0 := Aside0.mk (blk_far K0.out (p := ⟨w.heap.size + 1, qa, none⟩) (by show w.heap.size ≠ w.heap.size + 1; omega) (.int .i8 va))
              have n_K1 := Aside0.mk ((blk_set K1.out qa (.int .i8 va)).trans (by rw [value_Of.pv_set]))
              have n_K2 := Aside0.mk (blk_far K2.out (p := ⟨w.heap.size + 1, qa, none⟩) (by show w.heap.size + 1 + 1 ≠ w.heap.size + 1; omega) (.int .i8 va))
              have n_KB := Aside0.mk ((KB.out).setCell (p := ⟨w.heap.size + 1, qa, none⟩) (Nat.le_succ _) (.int .i8 va))
              have n_KF := Aside0.mk (blk_far KF.out (p := ⟨w.heap.size + 1, qa, none⟩) (by show gF ≠ w.heap.size + 1; have := HGF.out; omega) (.int .i8 va))
              have n_KS := Aside0.mk (blk_far KS.out (p := ⟨w.heap.size + 1, qa, none⟩) (by show gS ≠ w.heap.size + 1; have := HGS.out; omega) (.int .i8 va))
              clear K0 K1 K2 KB KF KS
              have K0 := n_K0
              have K1 := n_K1
              have K2 := n_K2
              have KB := n_KB
              have KF := n_KF
              have KS := n_KS
              clear n_K0 n_K1 n_K2 n_KB n_KF n_KS
              refine wpAnyH_done (by kernel_rfl) ?_ _
              go_wp2
              go_meet
              exact ⟨K0, K1, K2, KB, KF, KS⟩
            refine AllReadyH.cons rfl (fun K hK => ?_) ?_
            · show (if Region.wanted ⟨some 16, .load _ (.tmp 4), _, _, _, none⟩ _ = true then Oper.wp _ ⟨some 16, .load _ (.tmp 4), _, _, _, none⟩ _ _ _ _ else _)
              have e0 := (blk_cell KS.out 0).trans (show _ = some (Value.int .i64 (i : Int)) from rfl)
              go_simp
              clear e0
              refine ko hK ?_
              clear hK K
              refine wpAnyH_ready (rs := [1, 3]) (by kernel_rfl) (by simp) ?_
              refine AllReadyH.cons rfl (fun K hK => ?_) ?_
              · show (if Region.wanted ⟨some 15, .call _, _, _, _, none⟩ _ = true then Oper.wp _ ⟨some 15, .call _, _, _, _, none⟩ _ _ _ _ else _)
                go_simp
                refine (board_Start.far_calls _ _ _ _ _ gS gF KS.out KF.out HQA.out).mono ?_
                rintro e w7 ⟨rfl, hd⟩
                have hb := hd.below
                have n_K0 := Aside0.mk (blk_below K0.out hb)
                have n_K1 := Aside0.mk (blk_below K1.out hb)
                have n_K2 := Aside0.mk (blk_below K2.out hb)
                have n_KB := Aside0.mk (below_step KB.out hb)
                have n_KF := Aside0.mk (blk_below KF.out hb)
                have n_KS := Aside0.mk (blk_below KS.out hb)
                clear K0 K1 K2 KB KF KS
                have K0 := n_K0
                have K1 := n_K1
                have K2 := n_K2
                have KB := n_KB
                have KF := n_KF
                have KS := n_KS
                clear n_K0 n_K1 n_K2 n_KB n_KF n_KS
                clear hd hb
                refine ko hK ?_
                clear hK K
                refine wpAnyH_ready (rs := [3]) (by kernel_rfl) (by simp) ?_
                refine AllReadyH.cons rfl (fun K hK => ?_) AllReadyH.nil
                show (if Region.wanted ⟨some 17, .load _ (.tmp 3), _, _, _, none⟩ _ = true then Oper.wp _ ⟨some 17, .load _ (.tmp 3), _, _, _, none⟩ _ _ _ _ else _)
                have e0 := (blk_cell KF.out 0).trans (show _ = some (Value.int .i64 (f : Int)) from rfl)
                go_simp
                clear e0
                refine ko hK ?_
                clear hK K
                refine tk 4 ?_
                refine wpAnyH_ready (rs := [5]) (by kernel_rfl) (by simp) ?_
                refine AllReadyH.cons rfl (fun K hK => ?_) AllReadyH.nil
                show (if Region.wanted ⟨some 19, .load _ (.tmp 18), _, _, _, none⟩ _ = true then Oper.wp _ ⟨some 19, .load _ (.tmp 18), _, _, _, none⟩ _ _ _ _ else _)
                have e0 := (blk_cell K2.out f).trans (show _ = some (Value.int .i64 (board_Start.back f)) from HBK.out)
                go_simp
                clear e0
                refine ko hK ?_
                clear hK K
                refine wpAnyH_ready (rs := [6]) (by kernel_rfl) (by simp) ?_
                refine AllReadyH.cons rfl (fun K hK => ?_) AllReadyH.nil
                show (if Region.wanted ⟨some 20, .call _, _, _, _, none⟩ _ = true then Oper.wp _ ⟨some 20, .call _, _, _, _, none⟩ _ _ _ _ else _)
                go_simp
                refine (piece_Of.calls _ _ _ _ HVA.out).mono ?_
                rintro e w7 ⟨rfl, hd⟩
                have hb := hd.below
                have n_K0 := Aside0.mk (blk_below K0.out hb)
                have n_K1 := Aside0.mk (blk_below K1.out hb)
                have n_K2 := Aside0.mk (blk_below K2.out hb)
                have n_KB := Aside0.mk (below_step KB.out hb)
                have n_KF := Aside0.mk (blk_below KF.out hb)
                have n_KS := Aside0.mk (blk_below KS.out hb)
                clear K0 K1 K2 KB KF KS
                have K0 := n_K0
                have K1 := n_K1
                have K2 := n_K2
                have KB := n_KB
                have KF := n_KF
                have KS := n_KS
                clear n_K0 n_K1 n_K2 n_KB n_KF n_KS
                clear hd hb
                refine ko hK ?_
                clear hK K
                refine tk 8 ?_
                refine wpAnyH_ready (rs := [9]) (by kernel_rfl) (by simp) ?_
                refine AllReadyH.cons rfl (fun K hK => ?_) AllReadyH.nil
                show (if Region.wanted ⟨none, .store _ (.tmp 22) (.tmp 20), _, _, _, none⟩ _ = true then Oper.wp _ ⟨none, .store _ (.tmp 22) (.tmp 20), _, _, _, none⟩ _ _ _ _ else _)
                have e0 := (blk_cell K1.out qa).trans (value_Of.pv_get _ qa (by have := HLEN.out; (try simp only [List.length_set]); omega))
                have f0 := blk_frozen K1.out qa
                go_simp
                clear e0 f0
                refine ko hK ?_
                clear hK K
                have n_K0 := Aside0.mk (blk_far K0.out (p := ⟨w.heap.size + 1, qa, none⟩) (by show w.heap.size ≠ w.heap.size + 1; omega) (.int .i8 va))
                have n_K1 := Aside0.mk ((blk_set K1.out qa (.int .i8 va)).trans (by rw [value_Of.pv_set]))
                have n_K2 := Aside0.mk (blk_far K2.out (p := ⟨w.heap.size + 1, qa, none⟩) (by show w.heap.size + 1 + 1 ≠ w.heap.size + 1; omega) (.int .i8 va))
                have n_KB := Aside0.mk ((KB.out).setCell (p := ⟨w.heap.size + 1, qa, none⟩) (Nat.le_succ _) (.int .i8 va))
                have n_KF := Aside0.mk (blk_far KF.out (p := ⟨w.heap.size + 1, qa, none⟩) (by show gF ≠ w.heap.size + 1; have := HGF.out; omega) (.int .i8 va))
                have n_KS := Aside0.mk (blk_far KS.out (p := ⟨w.heap.size + 1, qa, none⟩) (by show gS ≠ w.heap.size + 1; have := HGS.out; omega) (.int .i8 va))
                clear K0 K1 K2 KB KF KS
                have K0 := n_K0
                have K1 := n_K1
                have K2 := n_K2
                have KB := n_KB
                have KF := n_KF
                have KS := n_KS
                clear n_K0 n_K1 n_K2 n_KB n_KF n_KS
                refine wpAnyH_done (by kernel_rfl) ?_ _
                go_wp2
                go_meet
                exact ⟨K0, K1, K2, KB, KF, KS⟩
              refine AllReadyH.cons rfl (fun K hK => ?_) AllReadyH.nil
              show (if Region.wanted ⟨some 17, .load _ (.tmp 3), _, _, _, none⟩ _ = true then Oper.wp _ ⟨some 17, .load _ (.tmp 3), _, _, _, none⟩ _ _ _ _ else _)
              have e0 := (blk_cell KF.out 0).trans (show _ = some (Value.int .i64 (f : Int)) from rfl)
              go_simp
              clear e0
              refine ko hK ?_
              clear hK K
              refine tk 4 ?_
              refine wpAnyH_ready (rs := [1, 5]) (by kernel_rfl) (by simp) ?_
              refine AllReadyH.cons rfl (fun K hK => ?_) ?_
              · show (if Region.wanted ⟨some 15, .call _, _, _, _, none⟩ _ = true then Oper.wp _ ⟨some 15, .call _, _, _, _, none⟩ _ _ _ _ else _)
                go_simp
                refine (board_Start.far_calls _ _ _ _ _ gS gF KS.out KF.out HQA.out).mono ?_
                rintro e w7 ⟨rfl, hd⟩
                have hb := hd.below
                have n_K0 := Aside0.mk (blk_below K0.out hb)
                have n_K1 := Aside0.mk (blk_below K1.out hb)
                have n_K2 := Aside0.mk (blk_below K2.out hb)
                have n_KB := Aside0.mk (below_step KB.out hb)
                have n_KF := Aside0.mk (blk_below KF.out hb)
                have n_KS := Aside0.mk (blk_below KS.out hb)
                clear K0 K1 K2 KB KF KS
                have K0 := n_K0
                have K1 := n_K1
                have K2 := n_K2
                have KB := n_KB
                have KF := n_KF
                have KS := n_KS
                clear n_K0 n_K1 n_K2 n_KB n_KF n_KS
                clear hd hb
                refine ko hK ?_
                clear hK K
                refine wpAnyH_ready (rs := [5]) (by kernel_rfl) (by simp) ?_
                refine AllReadyH.cons rfl (fun K hK => ?_) AllReadyH.nil
                show (if Region.wanted ⟨some 19, .load _ (.tmp 18), _, _, _, none⟩ _ = true then Oper.wp _ ⟨some 19, .load _ (.tmp 18), _, _, _, none⟩ _ _ _ _ else _)
                have e0 := (blk_cell K2.out f).trans (show _ = some (Value.int .i64 (board_Start.back f)) from HBK.out)
                go_simp
                clear e0
                refine ko hK ?_
                clear hK K
                refine wpAnyH_ready (rs := [6]) (by kernel_rfl) (by simp) ?_
                refine AllReadyH.cons rfl (fun K hK => ?_) AllReadyH.nil
                show (if Region.wanted ⟨some 20, .call _, _, _, _, none⟩ _ = true then Oper.wp _ ⟨some 20, .call _, _, _, _, none⟩ _ _ _ _ else _)
                go_simp
                refine (piece_Of.calls _ _ _ _ HVA.out).mono ?_
                rintro e w7 ⟨rfl, hd⟩
                have hb := hd.below
                have n_K0 := Aside0.mk (blk_below K0.out hb)
                have n_K1 := Aside0.mk (blk_below K1.out hb)
                have n_K2 := Aside0.mk (blk_below K2.out hb)
                have n_KB := Aside0.mk (below_step KB.out hb)
                have n_KF := Aside0.mk (blk_below KF.out hb)
                have n_KS := Aside0.mk (blk_below KS.out hb)
                clear K0 K1 K2 KB KF KS
                have K0 := n_K0
                have K1 := n_K1
                have K2 := n_K2
                have KB := n_KB
                have KF := n_KF
                have KS := n_KS
                clear n_K0 n_K1 n_K2 n_KB n_KF n_KS
                clear hd hb
                refine ko hK ?_
                clear hK K
                refine tk 8 ?_
                refine wpAnyH_ready (rs := [9]) (by kernel_rfl) (by simp) ?_
                refine AllReadyH.cons rfl (fun K hK => ?_) AllReadyH.nil
                show (if Region.wanted ⟨none, .store _ (.tmp 22) (.tmp 20), _, _, _, none⟩ _ = true then Oper.wp _ ⟨none, .store _ (.tmp 22) (.tmp 20), _, _, _, none⟩ _ _ _ _ else _)
                have e0 := (blk_cell K1.out qa).trans (value_Of.pv_get _ qa (by have := HLEN.out; (try simp only [List.length_set]); omega))
                have f0 := blk_frozen K1.out qa
                go_simp
                clear e0 f0
                refine ko hK ?_
                clear hK K
                have n_K0 := Aside0.mk (blk_far K0.out (p := ⟨w.heap.size + 1, qa, none⟩) (by show w.heap.size ≠ w.heap.size + 1; omega) (.int .i8 va))
                have n_K1 := Aside0.mk ((blk_set K1.out qa (.int .i8 va)).trans (by rw [value_Of.pv_set]))
                have n_K2 := Aside0.mk (blk_far K2.out (p := ⟨w.heap.size + 1, qa, none⟩) (by show w.heap.size + 1 + 1 ≠ w.heap.size + 1; omega) (.int .i8 va))
                have n_KB := Aside0.mk ((KB.out).setCell (p := ⟨w.heap.size + 1, qa, none⟩) (Nat.le_succ _) (.int .i8 va))
                have n_KF := Aside0.mk (blk_far KF.out (p := ⟨w.heap.size + 1, qa, none⟩) (by show gF ≠ w.heap.size + 1; have := HGF.out; omega) (.int .i8 va))
                have n_KS := Aside0.mk (blk_far KS.out (p := ⟨w.heap.size + 1, qa, none⟩) (by show gS ≠ w.heap.size + 1; have := HGS.out; omega) (.int .i8 va))
                clear K0 K1 K2 KB KF KS
                have K0 := n_K0
                have K1 := n_K1
                have K2 := n_K2
                have KB := n_KB
                have KF := n_KF
                have KS := n_KS
                clear n_K0 n_K1 n_K2 n_KB n_KF n_KS
                refine wpAnyH_done (by kernel_rfl) ?_ _
                go_wp2
                go_meet
                exact ⟨K0, K1, K2, KB, KF, KS⟩
              refine AllReadyH.cons rfl (fun K hK => ?_) AllReadyH.nil
              show (if Region.wanted ⟨some 19, .load _ (.tmp 18), _, _, _, none⟩ _ = true then Oper.wp _ ⟨some 19, .load _ (.tmp 18), _, _, _, none⟩ _ _ _ _ else _)
              have e0 := (blk_cell K2.out f).trans (show _ = some (Value.int .i64 (board_Start.back f)) from HBK.out)
              go_simp
              clear e0
              refine ko hK ?_
              clear hK K
              refine wpAnyH_ready (rs := [1]) (by kernel_rfl) (by simp) ?_
              refine AllReadyH.cons rfl (fun K hK => ?_) AllReadyH.nil
              show (if Region.wanted ⟨some 15, .call _, _, _, _, none⟩ _ = true then Oper.wp _ ⟨some 15, .call _, _, _, _, none⟩ _ _ _ _ else _)
              go_simp
              refine (board_Start.far_calls _ _ _ _ _ gS gF KS.out KF.out HQA.out).mono ?_
              rintro e w7 ⟨rfl, hd⟩
              have hb := hd.below
              have n_K0 := Aside0.mk (blk_below K0.out hb)
              have n_K1 := Aside0.mk (blk_below K1.out hb)
              have n_K2 := Aside0.mk (blk_below K2.out hb)
              have n_KB := Aside0.mk (below_step KB.out hb)
              have n_KF := Aside0.mk (blk_below KF.out hb)
              have n_KS := Aside0.mk (blk_below KS.out hb)
              clear K0 K1 K2 KB KF KS
              have K0 := n_K0
              have K1 := n_K1
              have K2 := n_K2
              have KB := n_KB
              have KF := n_KF
              have KS := n_KS
              clear n_K0 n_K1 n_K2 n_KB n_KF n_KS
              clear hd hb
              refine ko hK ?_
              clear hK K
              refine wpAnyH_ready (rs := [6]) (by kernel_rfl) (by simp) ?_
              refine AllReadyH.cons rfl (fun K hK => ?_) AllReadyH.nil
              show (if Region.wanted ⟨some 20, .call _, _, _, _, none⟩ _ = true then Oper.wp _ ⟨some 20, .call _, _, _, _, none⟩ _ _ _ _ else _)
              go_simp
              refine (piece_Of.calls _ _ _ _ HVA.out).mono ?_
              rintro e w7 ⟨rfl, hd⟩
              have hb := hd.below
              have n_K0 := Aside0.mk (blk_below K0.out hb)
              have n_K1 := Aside0.mk (blk_below K1.out hb)
              have n_K2 := Aside0.mk (blk_below K2.out hb)
              have n_KB := Aside0.mk (below_step KB.out hb)
              have n_KF := Aside0.mk (blk_below KF.out hb)
              have n_KS := Aside0.mk (blk_below KS.out hb)
              clear K0 K1 K2 KB KF KS
              have K0 := n_K0
              have K1 := n_K1
              have K2 := n_K2
              have KB := n_KB
              have KF := n_KF
              have KS := n_KS
              clear n_K0 n_K1 n_K2 n_KB n_KF n_KS
              clear hd hb
              refine ko hK ?_
              clear hK K
              refine tk 8 ?_
              refine wpAnyH_ready (rs := [9]) (by kernel_rfl) (by simp) ?_
              refine AllReadyH.cons rfl (fun K hK => ?_) AllReadyH.nil
              show (if Region.wanted ⟨none, .store _ (.tmp 22) (.tmp 20), _, _, _, none⟩ _ = true then Oper.wp _ ⟨none, .store _ (.tmp 22) (.tmp 20), _, _, _, none⟩ _ _ _ _ else _)
              have e0 := (blk_cell K1.out qa).trans (value_Of.pv_get _ qa (by have := HLEN.out; (try simp only [List.length_set]); omega))
              have f0 := blk_frozen K1.out qa
              go_simp
              clear e0 f0
              refine ko hK ?_
              clear hK K
              have n_K0 := Aside0.mk (blk_far K0.out (p := ⟨w.heap.size + 1, qa, none⟩) (by show w.heap.size ≠ w.heap.size + 1; omega) (.int .i8 va))
              have n_K1 := Aside0.mk ((blk_set K1.out qa (.int .i8 va)).trans (by rw [value_Of.pv_set]))
              have n_K2 := Aside0.mk (blk_far K2.out (p := ⟨w.heap.size + 1, qa, none⟩) (by show w.heap.size + 1 + 1 ≠ w.heap.size + 1; omega) (.int .i8 va))
              have n_KB := Aside0.mk ((KB.out).setCell (p := ⟨w.heap.size + 1, qa, none⟩) (Nat.le_succ _) (.int .i8 va))
              have n_KF := Aside0.mk (blk_far KF.out (p := ⟨w.heap.size + 1, qa, none⟩) (by show gF ≠ w.heap.size + 1; have := HGF.out; omega) (.int .i8 va))
              have n_KS := Aside0.mk (blk_far KS.out (p := ⟨w.heap.size + 1, qa, none⟩) (by show gS ≠ w.heap.size + 1; have := HGS.out; omega) (.int .i8 va))
              clear K0 K1 K2 KB KF KS
              have K0 := n_K0
              have K1 := n_K1
              have K2 := n_K2
              have KB := n_KB
              have KF := n_KF
              have KS := n_KS
              clear n_K0 n_K1 n_K2 n_KB n_KF n_KS
              refine wpAnyH_done (by kernel_rfl) ?_ _
              go_wp2
              go_meet
              exact ⟨K0, K1, K2, KB, KF, KS⟩
            refine AllReadyH.cons rfl (fun K hK => ?_) AllReadyH.nil
            show (if Region.wanted ⟨some 17, .load _ (.tmp 3), _, _, _, none⟩ _ = true then Oper.wp _ ⟨some 17, .load _ (.tmp 3), _, _, _, none⟩ _ _ _ _ else _)
            have e0 := (blk_cell KF.out 0).trans (show _ = some (Value.int .i64 (f : Int)) from rfl)
            go_simp
            clear e0
            refine ko hK ?_
            clear hK K
            refine tk 4 ?_
            refine wpAnyH_ready (rs := [1, 2, 5]) (by kernel_rfl) (by simp) ?_
            refine AllReadyH.cons rfl (fun K hK => ?_) ?_
            · show (if Region.wanted ⟨some 15, .call _, _, _, _, none⟩ _ = true then Oper.wp _ ⟨some 15, .call _, _, _, _, none⟩ _ _ _ _ else _)
              go_simp
              refine (board_Start.far_calls _ _ _ _ _ gS gF KS.out KF.out HQA.out).mono ?_
              rintro e w7 ⟨rfl, hd⟩
              have hb := hd.below
              have n_K0 := Aside0.mk (blk_below K0.out hb)
              have n_K1 := Aside0.mk (blk_below K1.out hb)
              have n_K2 := Aside0.mk (blk_below K2.out hb)
              have n_KB := Aside0.mk (below_step KB.out hb)
              have n_KF := Aside0.mk (blk_below KF.out hb)
              have n_KS := Aside0.mk (blk_below KS.out hb)
              clear K0 K1 K2 KB KF KS
              have K0 := n_K0
              have K1 := n_K1
              have K2 := n_K2
              have KB := n_KB
              have KF := n_KF
              have KS := n_KS
              clear n_K0 n_K1 n_K2 n_KB n_KF n_KS
              clear hd hb
              refine ko hK ?_
              clear hK K
              refine wpAnyH_ready (rs := [2, 5]) (by kernel_rfl) (by simp) ?_
              refine AllReadyH.cons rfl (fun K hK => ?_) ?_
              · show (if Region.wanted ⟨some 16, .load _ (.tmp 4), _, _, _, none⟩ _ = true then Oper.wp _ ⟨some 16, .load _ (.tmp 4), _, _, _, none⟩ _ _ _ _ else _)
                have e0 := (blk_cell KS.out 0).trans (show _ = some (Value.int .i64 (i : Int)) from rfl)
                go_simp
                clear e0
                refine ko hK ?_
                clear hK K
                refine wpAnyH_ready (rs := [5]) (by kernel_rfl) (by simp) ?_
                refine AllReadyH.cons rfl (fun K hK => ?_) AllReadyH.nil
                show (if Region.wanted ⟨some 19, .load _ (.tmp 18), _, _, _, none⟩ _ = true then Oper.wp _ ⟨some 19, .load _ (.tmp 18), _, _, _, none⟩ _ _ _ _ else _)
                have e0 := (blk_cell K2.out f).trans (show _ = some (Value.int .i64 (board_Start.back f)) from HBK.out)
                go_simp
                clear e0
                refine ko hK ?_
                clear hK K
                refine wpAnyH_ready (rs := [6]) (by kernel_rfl) (by simp) ?_
                refine AllReadyH.cons rfl (fun K hK => ?_) AllReadyH.nil
                show (if Region.wanted ⟨some 20, .call _, _, _, _, none⟩ _ = true then Oper.wp _ ⟨some 20, .call _, _, _, _, none⟩ _ _ _ _ else _)
                go_simp
                refine (piece_Of.calls _ _ _ _ HVA.out).mono ?_
                rintro e w7 ⟨rfl, hd⟩
                have hb := hd.below
                have n_K0 := Aside0.mk (blk_below K0.out hb)
                have n_K1 := Aside0.mk (blk_below K1.out hb)
                have n_K2 := Aside0.mk (blk_below K2.out hb)
                have n_KB := Aside0.mk (below_step KB.out hb)
                have n_KF := Aside0.mk (blk_below KF.out hb)
                have n_KS := Aside0.mk (blk_below KS.out hb)
                clear K0 K1 K2 KB KF KS
                have K0 := n_K0
                have K1 := n_K1
                have K2 := n_K2
                have KB := n_KB
                have KF := n_KF
                have KS := n_KS
                clear n_K0 n_K1 n_K2 n_KB n_KF n_KS
                clear hd hb
                refine ko hK ?_
                clear hK K
                refine tk 8 ?_
                refine wpAnyH_ready (rs := [9]) (by kernel_rfl) (by simp) ?_
                refine AllReadyH.cons rfl (fun K hK => ?_) AllReadyH.nil
                show (if Region.wanted ⟨none, .store _ (.tmp 22) (.tmp 20), _, _, _, none⟩ _ = true then Oper.wp _ ⟨none, .store _ (.tmp 22) (.tmp 20), _, _, _, none⟩ _ _ _ _ else _)
                have e0 := (blk_cell K1.out qa).trans (value_Of.pv_get _ qa (by have := HLEN.out; (try simp only [List.length_set]); omega))
                have f0 := blk_frozen K1.out qa
                go_simp
                clear e0 f0
                refine ko hK ?_
                clear hK K
                have n_K0 := Aside0.mk (blk_far K0.out (p := ⟨w.heap.size + 1, qa, none⟩) (by show w.heap.size ≠ w.heap.size + 1; omega) (.int .i8 va))
                have n_K1 := Aside0.mk ((blk_set K1.out qa (.int .i8 va)).trans (by rw [value_Of.pv_set]))
                have n_K2 := Aside0.mk (blk_far K2.out (p := ⟨w.heap.size + 1, qa, none⟩) (by show w.heap.size + 1 + 1 ≠ w.heap.size + 1; omega) (.int .i8 va))
                have n_KB := Aside0.mk ((KB.out).setCell (p := ⟨w.heap.size + 1, qa, none⟩) (Nat.le_succ _) (.int .i8 va))
                have n_KF := Aside0.mk (blk_far KF.out (p := ⟨w.heap.size + 1, qa, none⟩) (by show gF ≠ w.heap.size + 1; have := HGF.out; omega) (.int .i8 va))
                have n_KS := Aside0.mk (blk_far KS.out (p := ⟨w.heap.size + 1, qa, none⟩) (by show gS ≠ w.heap.size + 1; have := HGS.out; omega) (.int .i8 va))
                clear K0 K1 K2 KB KF KS
                have K0 := n_K0
                have K1 := n_K1
                have K2 := n_K2
                have KB := n_KB
                have KF := n_KF
                have KS := n_KS
                clear n_K0 n_K1 n_K2 n_KB n_KF n_KS
                refine wpAnyH_done (by kernel_rfl) ?_ _
                go_wp2
                go_meet
                exact ⟨K0, K1, K2, KB, KF, KS⟩
              refine AllReadyH.cons rfl (fun K hK => ?_) AllReadyH.nil
              show (if Region.wanted ⟨some 19, .load _ (.tmp 18), _, _, _, none⟩ _ = true then Oper.wp _ ⟨some 19, .load _ (.tmp 18), _, _, _, none⟩ _ _ _ _ else _)
              have e0 := (blk_cell K2.out f).trans (show _ = some (Value.int .i64 (board_Start.back f)) from HBK.out)
              go_simp
              clear e0
              refine ko hK ?_
              clear hK K
              refine wpAnyH_ready (rs := [2]) (by kernel_rfl) (by simp) ?_
              refine AllReadyH.cons rfl (fun K hK => ?_) AllReadyH.nil
              show (if Region.wanted ⟨some 16, .load _ (.tmp 4), _, _, _, none⟩ _ = true then Oper.wp _ ⟨some 16, .load _ (.tmp 4), _, _, _, none⟩ _ _ _ _ else _)
              have e0 := (blk_cell KS.out 0).trans (show _ = some (Value.int .i64 (i : Int)) from rfl)
              go_simp
              clear e0
              refine ko hK ?_
              clear hK K
              refine wpAnyH_ready (rs := [6]) (by kernel_rfl) (by simp) ?_
              refine AllReadyH.cons rfl (fun K hK => ?_) AllReadyH.nil
              show (if Region.wanted ⟨some 20, .call _, _, _, _, none⟩ _ = true then Oper.wp _ ⟨some 20, .call _, _, _, _, none⟩ _ _ _ _ else _)
              go_simp
              refine (piece_Of.calls _ _ _ _ HVA.out).mono ?_
              rintro e w7 ⟨rfl, hd⟩
              have hb := hd.below
              have n_K0 := Aside0.mk (blk_below K0.out hb)
              have n_K1 := Aside0.mk (blk_below K1.out hb)
              have n_K2 := Aside0.mk (blk_below K2.out hb)
              have n_KB := Aside0.mk (below_step KB.out hb)
              have n_KF := Aside0.mk (blk_below KF.out hb)
              have n_KS := Aside0.mk (blk_below KS.out hb)
              clear K0 K1 K2 KB KF KS
              have K0 := n_K0
              have K1 := n_K1
              have K2 := n_K2
              have KB := n_KB
              have KF := n_KF
              have KS := n_KS
              clear n_K0 n_K1 n_K2 n_KB n_KF n_KS
              clear hd hb
              refine ko hK ?_
              clear hK K
              refine tk 8 ?_
              refine wpAnyH_ready (rs := [9]) (by kernel_rfl) (by simp) ?_
              refine AllReadyH.cons rfl (fun K hK => ?_) AllReadyH.nil
              show (if Region.wanted ⟨none, .store _ (.tmp 22) (.tmp 20), _, _, _, none⟩ _ = true then Oper.wp _ ⟨none, .store _ (.tmp 22) (.tmp 20), _, _, _, none⟩ _ _ _ _ else _)
              have e0 := (blk_cell K1.out qa).trans (value_Of.pv_get _ qa (by have := HLEN.out; (try simp only [List.length_set]); omega))
              have f0 := blk_frozen K1.out qa
              go_simp
              clear e0 f0
              refine ko hK ?_
              clear hK K
              have n_K0 := Aside0.mk (blk_far K0.out (p := ⟨w.heap.size + 1, qa, none⟩) (by show w.heap.size ≠ w.heap.size + 1; omega) (.int .i8 va))
              have n_K1 := Aside0.mk ((blk_set K1.out qa (.int .i8 va)).trans (by rw [value_Of.pv_set]))
              have n_K2 := Aside0.mk (blk_far K2.out (p := ⟨w.heap.size + 1, qa, none⟩) (by show w.heap.size + 1 + 1 ≠ w.heap.size + 1; omega) (.int .i8 va))
              have n_KB := Aside0.mk ((KB.out).setCell (p := ⟨w.heap.size + 1, qa, none⟩) (Nat.le_succ _) (.int .i8 va))
              have n_KF := Aside0.mk (blk_far KF.out (p := ⟨w.heap.size + 1, qa, none⟩) (by show gF ≠ w.heap.size + 1; have := HGF.out; omega) (.int .i8 va))
              have n_KS := Aside0.mk (blk_far KS.out (p := ⟨w.heap.size + 1, qa, none⟩) (by show gS ≠ w.heap.size + 1; have := HGS.out; omega) (.int .i8 va))
              clear K0 K1 K2 KB KF KS
              have K0 := n_K0
              have K1 := n_K1
              have K2 := n_K2
              have KB := n_KB
              have KF := n_KF
              have KS := n_KS
              clear n_K0 n_K1 n_K2 n_KB n_KF n_KS
              refine wpAnyH_done (by kernel_rfl) ?_ _
              go_wp2
              go_meet
              exact ⟨K0, K1, K2, KB, KF, KS⟩
            refine AllReadyH.cons rfl (fun K hK => ?_) ?_
            · show (if Region.wanted ⟨some 16, .load _ (.tmp 4), _, _, _, none⟩ _ = true then Oper.wp _ ⟨some 16, .load _ (.tmp 4), _, _, _, none⟩ _ _ _ _ else _)
              have e0 := (blk_cell KS.out 0).trans (show _ = some (Value.int .i64 (i : Int)) from rfl)
              go_simp
              clear e0
              refine ko hK ?_
              clear hK K
              refine wpAnyH_ready (rs := [1, 5]) (by kernel_rfl) (by simp) ?_
              refine AllReadyH.cons rfl (fun K hK => ?_) ?_
              · show (if Region.wanted ⟨some 15, .call _, _, _, _, none⟩ _ = true then Oper.wp _ ⟨some 15, .call _, _, _, _, none⟩ _ _ _ _ else _)
                go_simp
                refine (board_Start.far_calls _ _ _ _ _ gS gF KS.out KF.out HQA.out).mono ?_
                rintro e w7 ⟨rfl, hd⟩
                have hb := hd.below
                have n_K0 := Aside0.mk (blk_below K0.out hb)
                have n_K1 := Aside0.mk (blk_below K1.out hb)
                have n_K2 := Aside0.mk (blk_below K2.out hb)
                have n_KB := Aside0.mk (below_step KB.out hb)
                have n_KF := Aside0.mk (blk_below KF.out hb)
                have n_KS := Aside0.mk (blk_below KS.out hb)
                clear K0 K1 K2 KB KF KS
                have K0 := n_K0
                have K1 := n_K1
                have K2 := n_K2
                have KB := n_KB
                have KF := n_KF
                have KS := n_KS
                clear n_K0 n_K1 n_K2 n_KB n_KF n_KS
                clear hd hb
                refine ko hK ?_
                clear hK K
                refine wpAnyH_ready (rs := [5]) (by kernel_rfl) (by simp) ?_
                refine AllReadyH.cons rfl (fun K hK => ?_) AllReadyH.nil
                show (if Region.wanted ⟨some 19, .load _ (.tmp 18), _, _, _, none⟩ _ = true then Oper.wp _ ⟨some 19, .load _ (.tmp 18), _, _, _, none⟩ _ _ _ _ else _)
                have e0 := (blk_cell K2.out f).trans (show _ = some (Value.int .i64 (board_Start.back f)) from HBK.out)
                go_simp
                clear e0
                refine ko hK ?_
                clear hK K
                refine wpAnyH_ready (rs := [6]) (by kernel_rfl) (by simp) ?_
                refine AllReadyH.cons rfl (fun K hK => ?_) AllReadyH.nil
                show (if Region.wanted ⟨some 20, .call _, _, _, _, none⟩ _ = true then Oper.wp _ ⟨some 20, .call _, _, _, _, none⟩ _ _ _ _ else _)
                go_simp
                refine (piece_Of.calls _ _ _ _ HVA.out).mono ?_
                rintro e w7 ⟨rfl, hd⟩
                have hb := hd.below
                have n_K0 := Aside0.mk (blk_below K0.out hb)
                have n_K1 := Aside0.mk (blk_below K1.out hb)
                have n_K2 := Aside0.mk (blk_below K2.out hb)
                have n_KB := Aside0.mk (below_step KB.out hb)
                have n_KF := Aside0.mk (blk_below KF.out hb)
                have n_KS := Aside0.mk (blk_below KS.out hb)
                clear K0 K1 K2 KB KF KS
                have K0 := n_K0
                have K1 := n_K1
                have K2 := n_K2
                have KB := n_KB
                have KF := n_KF
                have KS := n_KS
                clear n_K0 n_K1 n_K2 n_KB n_KF n_KS
                clear hd hb
                refine ko hK ?_
                clear hK K
                refine tk 8 ?_
                refine wpAnyH_ready (rs := [9]) (by kernel_rfl) (by simp) ?_
                refine AllReadyH.cons rfl (fun K hK => ?_) AllReadyH.nil
                show (if Region.wanted ⟨none, .store _ (.tmp 22) (.tmp 20), _, _, _, none⟩ _ = true then Oper.wp _ ⟨none, .store _ (.tmp 22) (.tmp 20), _, _, _, none⟩ _ _ _ _ else _)
                have e0 := (blk_cell K1.out qa).trans (value_Of.pv_get _ qa (by have := HLEN.out; (try simp only [List.length_set]); omega))
                have f0 := blk_frozen K1.out qa
                go_simp
                clear e0 f0
                refine ko hK ?_
                clear hK K
                have n_K0 := Aside0.mk (blk_far K0.out (p := ⟨w.heap.size + 1, qa, none⟩) (by show w.heap.size ≠ w.heap.size + 1; omega) (.int .i8 va))
                have n_K1 := Aside0.mk ((blk_set K1.out qa (.int .i8 va)).trans (by rw [value_Of.pv_set]))
                have n_K2 := Aside0.mk (blk_far K2.out (p := ⟨w.heap.size + 1, qa, none⟩) (by show w.heap.size + 1 + 1 ≠ w.heap.size + 1; omega) (.int .i8 va))
                have n_KB := Aside0.mk ((KB.out).setCell (p := ⟨w.heap.size + 1, qa, none⟩) (Nat.le_succ _) (.int .i8 va))
                have n_KF := Aside0.mk (blk_far KF.out (p := ⟨w.heap.size + 1, qa, none⟩) (by show gF ≠ w.heap.size + 1; have := HGF.out; omega) (.int .i8 va))
                have n_KS := Aside0.mk (blk_far KS.out (p := ⟨w.heap.size + 1, qa, none⟩) (by show gS ≠ w.heap.size + 1; have := HGS.out; omega) (.int .i8 va))
                clear K0 K1 K2 KB KF KS
                have K0 := n_K0
                have K1 := n_K1
                have K2 := n_K2
                have KB := n_KB
                have KF := n_KF
                have KS := n_KS
                clear n_K0 n_K1 n_K2 n_KB n_KF n_KS
                refine wpAnyH_done (by kernel_rfl) ?_ _
                go_wp2
                go_meet
                exact ⟨K0, K1, K2, KB, KF, KS⟩
              refine AllReadyH.cons rfl (fun K hK => ?_) AllReadyH.nil
              show (if Region.wanted ⟨some 19, .load _ (.tmp 18), _, _, _, none⟩ _ = true then Oper.wp _ ⟨some 19, .load _ (.tmp 18), _, _, _, none⟩ _ _ _ _ else _)
              have e0 := (blk_cell K2.out f).trans (show _ = some (Value.int .i64 (board_Start.back f)) from HBK.out)
              go_simp
              clear e0
              refine ko hK ?_
              clear hK K
              refine wpAnyH_ready (rs := [1]) (by kernel_rfl) (by simp) ?_
              refine AllReadyH.cons rfl (fun K hK => ?_) AllReadyH.nil
              show (if Region.wanted ⟨some 15, .call _, _, _, _, none⟩ _ = true then Oper.wp _ ⟨some 15, .call _, _, _, _, none⟩ _ _ _ _ else _)
              go_simp
              refine (board_Start.far_calls _ _ _ _ _ gS gF KS.out KF.out HQA.out).mono ?_
              rintro e w7 ⟨rfl, hd⟩
              have hb := hd.below
              have n_K0 := Aside0.mk (blk_below K0.out hb)
              have n_K1 := Aside0.mk (blk_below K1.out hb)
              have n_K2 := Aside0.mk (blk_below K2.out hb)
              have n_KB := Aside0.mk (below_step KB.out hb)
              have n_KF := Aside0.mk (blk_below KF.out hb)
              have n_KS := Aside0.mk (blk_below KS.out hb)
              clear K0 K1 K2 KB KF KS
              have K0 := n_K0
              have K1 := n_K1
              have K2 := n_K2
              have KB := n_KB
              have KF := n_KF
              have KS := n_KS
              clear n_K0 n_K1 n_K2 n_KB n_KF n_KS
              clear hd hb
              refine ko hK ?_
              clear hK K
              refine wpAnyH_ready (rs := [6]) (by kernel_rfl) (by simp) ?_
              refine AllReadyH.cons rfl (fun K hK => ?_) AllReadyH.nil
              show (if Region.wanted ⟨some 20, .call _, _, _, _, none⟩ _ = true then Oper.wp _ ⟨some 20, .call _, _, _, _, none⟩ _ _ _ _ else _)
              go_simp
              refine (piece_Of.calls _ _ _ _ HVA.out).mono ?_
              rintro e w7 ⟨rfl, hd⟩
              have hb := hd.below
              have n_K0 := Aside0.mk (blk_below K0.out hb)
              have n_K1 := Aside0.mk (blk_below K1.out hb)
              have n_K2 := Aside0.mk (blk_below K2.out hb)
              have n_KB := Aside0.mk (below_step KB.out hb)
              have n_KF := Aside0.mk (blk_below KF.out hb)
              have n_KS := Aside0.mk (blk_below KS.out hb)
              clear K0 K1 K2 KB KF KS
              have K0 := n_K0
              have K1 := n_K1
              have K2 := n_K2
              have KB := n_KB
              have KF := n_KF
              have KS := n_KS
              clear n_K0 n_K1 n_K2 n_KB n_KF n_KS
              clear hd hb
              refine ko hK ?_
              clear hK K
              refine tk 8 ?_
              refine wpAnyH_ready (rs := [9]) (by kernel_rfl) (by simp) ?_
              refine AllReadyH.cons rfl (fun K hK => ?_) AllReadyH.nil
              show (if Region.wanted ⟨none, .store _ (.tmp 22) (.tmp 20), _, _, _, none⟩ _ = true then Oper.wp _ ⟨none, .store _ (.tmp 22) (.tmp 20), _, _, _, none⟩ _ _ _ _ else _)
              have e0 := (blk_cell K1.out qa).trans (value_Of.pv_get _ qa (by have := HLEN.out; (try simp only [List.length_set]); omega))
              have f0 := blk_frozen K1.out qa
              go_simp
              clear e0 f0
              refine ko hK ?_
              clear hK K
              have n_K0 := Aside0.mk (blk_far K0.out (p := ⟨w.heap.size + 1, qa, none⟩) (by show w.heap.size ≠ w.heap.size + 1; omega) (.int .i8 va))
              have n_K1 := Aside0.mk ((blk_set K1.out qa (.int .i8 va)).trans (by rw [value_Of.pv_set]))
              have n_K2 := Aside0.mk (blk_far K2.out (p := ⟨w.heap.size + 1, qa, none⟩) (by show w.heap.size + 1 + 1 ≠ w.heap.size + 1; omega) (.int .i8 va))
              have n_KB := Aside0.mk ((KB.out).setCell (p := ⟨w.heap.size + 1, qa, none⟩) (Nat.le_succ _) (.int .i8 va))
              have n_KF := Aside0.mk (blk_far KF.out (p := ⟨w.heap.size + 1, qa, none⟩) (by show gF ≠ w.heap.size + 1; have := HGF.out; omega) (.int .i8 va))
              have n_KS := Aside0.mk (blk_far KS.out (p := ⟨w.heap.size + 1, qa, none⟩) (by show gS ≠ w.heap.size + 1; have := HGS.out; omega) (.int .i8 va))
              clear K0 K1 K2 KB KF KS
              have K0 := n_K0
              have K1 := n_K1
              have K2 := n_K2
              have KB := n_KB
              have KF := n_KF
              have KS := n_KS
              clear n_K0 n_K1 n_K2 n_KB n_KF n_KS
              refine wpAnyH_done (by kernel_rfl) ?_ _
              go_wp2
              go_meet
              exact ⟨K0, K1, K2, KB, KF, KS⟩
            refine AllReadyH.cons rfl (fun K hK => ?_) AllReadyH.nil
            show (if Region.wanted ⟨some 19, .load _ (.tmp 18), _, _, _, none⟩ _ = true then Oper.wp _ ⟨some 19, .load _ (.tmp 18), _, _, _, none⟩ _ _ _ _ else _)
            have e0 := (blk_cell K2.out f).trans (show _ = some (Value.int .i64 (board_Start.back f)) from HBK.out)
            go_simp
            clear e0
            refine ko hK ?_
            clear hK K
            refine wpAnyH_ready (rs := [1, 2]) (by kernel_rfl) (by simp) ?_
            refine AllReadyH.cons rfl (fun K hK => ?_) ?_
            · show (if Region.wanted ⟨some 15, .call _, _, _, _, none⟩ _ = true then Oper.wp _ ⟨some 15, .call _, _, _, _, none⟩ _ _ _ _ else _)
              go_simp
              refine (board_Start.far_calls _ _ _ _ _ gS gF KS.out KF.out HQA.out).mono ?_
              rintro e w7 ⟨rfl, hd⟩
              have hb := hd.below
              have n_K0 := Aside0.mk (blk_below K0.out hb)
              have n_K1 := Aside0.mk (blk_below K1.out hb)
              have n_K2 := Aside0.mk (blk_below K2.out hb)
              have n_KB := Aside0.mk (below_step KB.out hb)
              have n_KF := Aside0.mk (blk_below KF.out hb)
              have n_KS := Aside0.mk (blk_below KS.out hb)
              clear K0 K1 K2 KB KF KS
              have K0 := n_K0
              have K1 := n_K1
              have K2 := n_K2
              have KB := n_KB
              have KF := n_KF
              have KS := n_KS
              clear n_K0 n_K1 n_K2 n_KB n_KF n_KS
              clear hd hb
              refine ko hK ?_
              clear hK K
              refine wpAnyH_ready (rs := [2]) (by kernel_rfl) (by simp) ?_
              refine AllReadyH.cons rfl (fun K hK => ?_) AllReadyH.nil
              show (if Region.wanted ⟨some 16, .load _ (.tmp 4), _, _, _, none⟩ _ = true then Oper.wp _ ⟨some 16, .load _ (.tmp 4), _, _, _, none⟩ _ _ _ _ else _)
              have e0 := (blk_cell KS.out 0).trans (show _ = some (Value.int .i64 (i : Int)) from rfl)
              go_simp
              clear e0
              refine ko hK ?_
              clear hK K
              refine wpAnyH_ready (rs := [6]) (by kernel_rfl) (by simp) ?_
              refine AllReadyH.cons rfl (fun K hK => ?_) AllReadyH.nil
              show (if Region.wanted ⟨some 20, .call _, _, _, _, none⟩ _ = true then Oper.wp _ ⟨some 20, .call _, _, _, _, none⟩ _ _ _ _ else _)
              go_simp
              refine (piece_Of.calls _ _ _ _ HVA.out).mono ?_
              rintro e w7 ⟨rfl, hd⟩
              have hb := hd.below
              have n_K0 := Aside0.mk (blk_below K0.out hb)
              have n_K1 := Aside0.mk (blk_below K1.out hb)
              have n_K2 := Aside0.mk (blk_below K2.out hb)
              have n_KB := Aside0.mk (below_step KB.out hb)
              have n_KF := Aside0.mk (blk_below KF.out hb)
              have n_KS := Aside0.mk (blk_below KS.out hb)
              clear K0 K1 K2 KB KF KS
              have K0 := n_K0
              have K1 := n_K1
              have K2 := n_K2
              have KB := n_KB
              have KF := n_KF
              have KS := n_KS
              clear n_K0 n_K1 n_K2 n_KB n_KF n_KS
              clear hd hb
              refine ko hK ?_
              clear hK K
              refine tk 8 ?_
              refine wpAnyH_ready (rs := [9]) (by kernel_rfl) (by simp) ?_
              refine AllReadyH.cons rfl (fun K hK => ?_) AllReadyH.nil
              show (if Region.wanted ⟨none, .store _ (.tmp 22) (.tmp 20), _, _, _, none⟩ _ = true then Oper.wp _ ⟨none, .store _ (.tmp 22) (.tmp 20), _, _, _, none⟩ _ _ _ _ else _)
              have e0 := (blk_cell K1.out qa).trans (value_Of.pv_get _ qa (by have := HLEN.out; (try simp only [List.length_set]); omega))
              have f0 := blk_frozen K1.out qa
              go_simp
              clear e0 f0
              refine ko hK ?_
              clear hK K
              have n_K0 := Aside0.mk (blk_far K0.out (p := ⟨w.heap.size + 1, qa, none⟩) (by show w.heap.size ≠ w.heap.size + 1; omega) (.int .i8 va))
              have n_K1 := Aside0.mk ((blk_set K1.out qa (.int .i8 va)).trans (by rw [value_Of.pv_set]))
              have n_K2 := Aside0.mk (blk_far K2.out (p := ⟨w.heap.size + 1, qa, none⟩) (by show w.heap.size + 1 + 1 ≠ w.heap.size + 1; omega) (.int .i8 va))
              have n_KB := Aside0.mk ((KB.out).setCell (p := ⟨w.heap.size + 1, qa, none⟩) (Nat.le_succ _) (.int .i8 va))
              have n_KF := Aside0.mk (blk_far KF.out (p := ⟨w.heap.size + 1, qa, none⟩) (by show gF ≠ w.heap.size + 1; have := HGF.out; omega) (.int .i8 va))
              have n_KS := Aside0.mk (blk_far KS.out (p := ⟨w.heap.size + 1, qa, none⟩) (by show gS ≠ w.heap.size + 1; have := HGS.out; omega) (.int .i8 va))
              clear K0 K1 K2 KB KF KS
              have K0 := n_K0
              have K1 := n_K1
              have K2 := n_K2
              have KB := n_KB
              have KF := n_KF
              have KS := n_KS
              clear n_K0 n_K1 n_K2 n_KB n_KF n_KS
              refine wpAnyH_done (by kernel_rfl) ?_ _
              go_wp2
              go_meet
              exact ⟨K0, K1, K2, KB, KF, KS⟩
            refine AllReadyH.cons rfl (fun K hK => ?_) AllReadyH.nil
            show (if Region.wanted ⟨some 16, .load _ (.tmp 4), _, _, _, none⟩ _ = true then Oper.wp _ ⟨some 16, .load _ (.tmp 4), _, _, _, none⟩ _ _ _ _ else _)
            have e0 := (blk_cell KS.out 0).trans (show _ = some (Value.int .i64 (i : Int)) from rfl)
            go_simp
            clear e0
            refine ko hK ?_
            clear hK K
            refine wpAnyH_ready (rs := [1]) (by kernel_rfl) (by simp) ?_
            refine AllReadyH.cons rfl (fun K hK => ?_) AllReadyH.nil
            show (if Region.wanted ⟨some 15, .call _, _, _, _, none⟩ _ = true then Oper.wp _ ⟨some 15, .call _, _, _, _, none⟩ _ _ _ _ else _)
            go_simp
            refine (board_Start.far_calls _ _ _ _ _ gS gF KS.out KF.out HQA.out).mono ?_
            rintro e w7 ⟨rfl, hd⟩
            have hb := hd.below
            have n_K0 := Aside0.mk (blk_below K0.out hb)
            have n_K1 := Aside0.mk (blk_below K1.out hb)
            have n_K2 := Aside0.mk (blk_below K2.out hb)
            have n_KB := Aside0.mk (below_step KB.out hb)
            have n_KF := Aside0.mk (blk_below KF.out hb)
            have n_KS := Aside0.mk (blk_below KS.out hb)
            clear K0 K1 K2 KB KF KS
            have K0 := n_K0
            have K1 := n_K1
            have K2 := n_K2
            have KB := n_KB
            have KF := n_KF
            have KS := n_KS
            clear n_K0 n_K1 n_K2 n_KB n_KF n_KS
            clear hd hb
            refine ko hK ?_
            clear hK K
            refine wpAnyH_ready (rs := [6]) (by kernel_rfl) (by simp) ?_
            refine AllReadyH.cons rfl (fun K hK => ?_) AllReadyH.nil
            show (if Region.wanted ⟨some 20, .call _, _, _, _, none⟩ _ = true then Oper.wp _ ⟨some 20, .call _, _, _, _, none⟩ _ _ _ _ else _)
            go_simp
            refine (piece_Of.calls _ _ _ _ HVA.out).mono ?_
            rintro e w7 ⟨rfl, hd⟩
            have hb := hd.below
            have n_K0 := Aside0.mk (blk_below K0.out hb)
            have n_K1 := Aside0.mk (blk_below K1.out hb)
            have n_K2 := Aside0.mk (blk_below K2.out hb)
            have n_KB := Aside0.mk (below_step KB.out hb)
            have n_KF := Aside0.mk (blk_below KF.out hb)
            have n_KS := Aside0.mk (blk_below KS.out hb)
            clear K0 K1 K2 KB KF KS
            have K0 := n_K0
            have K1 := n_K1
            have K2 := n_K2
            have KB := n_KB
            have KF := n_KF
            have KS := n_KS
            clear n_K0 n_K1 n_K2 n_KB n_KF n_KS
            clear hd hb
            refine ko hK ?_
            clear hK K
            refine tk 8 ?_
            refine wpAnyH_ready (rs := [9]) (by kernel_rfl) (by simp) ?_
            refine AllReadyH.cons rfl (fun K hK => ?_) AllReadyH.nil
            show (if Region.wanted ⟨none, .store _ (.tmp 22) (.tmp 20), _, _, _, none⟩ _ = true then Oper.wp _ ⟨none, .store _ (.tmp 22) (.tmp 20), _, _, _, none⟩ _ _ _ _ else _)
            have e0 := (blk_cell K1.out qa).trans (value_Of.pv_get _ qa (by have := HLEN.out; (try simp only [List.length_set]); omega))
            have f0 := blk_frozen K1.out qa
            go_simp
            clear e0 f0
            refine ko hK ?_
            clear hK K
            have n_K0 := Aside0.mk (blk_far K0.out (p := ⟨w.heap.size + 1, qa, none⟩) (by show w.heap.size ≠ w.heap.size + 1; omega) (.int .i8 va))
            have n_K1 := Aside0.mk ((blk_set K1.out qa (.int .i8 va)).trans (by rw [value_Of.pv_set]))
            have n_K2 := Aside0.mk (blk_far K2.out (p := ⟨w.heap.size + 1, qa, none⟩) (by show w.heap.size + 1 + 1 ≠ w.heap.size + 1; omega) (.int .i8 va))
            have n_KB := Aside0.mk ((KB.out).setCell (p := ⟨w.heap.size + 1, qa, none⟩) (Nat.le_succ _) (.int .i8 va))
            have n_KF := Aside0.mk (blk_far KF.out (p := ⟨w.heap.size + 1, qa, none⟩) (by show gF ≠ w.heap.size + 1; have := HGF.out; omega) (.int .i8 va))
            have n_KS := Aside0.mk (blk_far KS.out (p := ⟨w.heap.size + 1, qa, none⟩) (by show gS ≠ w.heap.size + 1; have := HGS.out; omega) (.int .i8 va))
            clear K0 K1 K2 KB KF KS
            have K0 := n_K0
            have K1 := n_K1
            have K2 := n_K2
            have KB := n_KB
            have KF := n_KF
            have KS := n_KS
            clear n_K0 n_K1 n_K2 n_KB n_KF n_KS
            refine wpAnyH_done (by kernel_rfl) ?_ _
            go_wp2
            go_meet
            exact ⟨K0, K1, K2, KB, KF, KS⟩
          case rest =>
            clear K0 K1 K2 KB KF KS
            obtain ⟨K0, K1, K2, KB, KF, KS⟩ := hcut
            go_wp2
            refine wp_region_held_drew (S := fun _ => True) (by kernel_rfl) trivial (fun _ => ?_)
            have n_K0 := Aside0.mk (blk_drew K0.out)
            have n_K1 := Aside0.mk (blk_drew K1.out)
            have n_K2 := Aside0.mk (blk_drew K2.out)
            have n_KB := Aside0.mk (below_drew KB.out)
            have n_KF := Aside0.mk (blk_drew KF.out)
            have n_KS := Aside0.mk (blk_drew KS.out)
            clear K0 K1 K2 KB KF KS
            have K0 := n_K0
            have K1 := n_K1
            have K2 := n_K2
            have KB := n_KB
            have KF := n_KF
            have KS := n_KS
            clear n_K0 n_K1 n_K2 n_KB n_KF n_KS
            refine tk 0 ?_
            refine tk 4 ?_
            refine wpAnyH_ready (rs := [1, 2]) (by kernel_rfl) (by simp) ?_
            refine AllReadyH.cons rfl (fun K hK => ?_) ?_
            · show (if Region.wanted ⟨some 24, .call _, _, _, _, none⟩ _ = true then Oper.wp _ ⟨some 24, .call _, _, _, _, none⟩ _ _ _ _ else _)
              go_simp
              refine (board_Start.far_calls _ _ _ _ _ gS gF KS.out KF.out HQB.out).mono ?_
              rintro e w7 ⟨rfl, hd⟩
              have hb := hd.below
              have n_K0 := Aside0.mk (blk_below K0.out hb)
              have n_K1 := Aside0.mk (blk_below K1.out hb)
              have n_K2 := Aside0.mk (blk_below K2.out hb)
              have n_KB := Aside0.mk (below_step KB.out hb)
              have n_KF := Aside0.mk (blk_below KF.out hb)
              have n_KS := Aside0.mk (blk_below KS.out hb)
              clear K0 K1 K2 KB KF KS
              have K0 := n_K0
              have K1 := n_K1
              have K2 := n_K2
              have KB := n_KB
              have KF := n_KF
              have KS := n_KS
              clear n_K0 n_K1 n_K2 n_KB n_KF n_KS
              clear hd hb
              refine ko hK ?_
              clear hK K
              refine wpAnyH_ready (rs := [2]) (by kernel_rfl) (by simp) ?_
              refine AllReadyH.cons rfl (fun K hK => ?_) AllReadyH.nil
              show (if Region.wanted ⟨some 25, .load _ (.tmp 4), _, _, _, none⟩ _ = true then Oper.wp _ ⟨some 25, .load _ (.tmp 4), _, _, _, none⟩ _ _ _ _ else _)
              have e0 := (blk_cell KS.out 0).trans (show _ = some (Value.int .i64 (i : Int)) from rfl)
              go_simp
              clear e0
              refine ko hK ?_
              clear hK K
              refine wpAnyH_ready (rs := [3]) (by kernel_rfl) (by simp) ?_
              refine AllReadyH.cons rfl (fun K hK => ?_) AllReadyH.nil
              show (if Region.wanted ⟨some 26, .call _, _, _, _, none⟩ _ = true then Oper.wp _ ⟨some 26, .call _, _, _, _, none⟩ _ _ _ _ else _)
              go_simp
              refine (piece_Of.calls _ _ _ _ HVB.out).mono ?_
              rintro e w7 ⟨rfl, hd⟩
              have hb := hd.below
              have n_K0 := Aside0.mk (blk_below K0.out hb)
              have n_K1 := Aside0.mk (blk_below K1.out hb)
              have n_K2 := Aside0.mk (blk_below K2.out hb)
              have n_KB := Aside0.mk (below_step KB.out hb)
              have n_KF := Aside0.mk (blk_below KF.out hb)
              have n_KS := Aside0.mk (blk_below KS.out hb)
              clear K0 K1 K2 KB KF KS
              have K0 := n_K0
              have K1 := n_K1
              have K2 := n_K2
              have KB := n_KB
              have KF := n_KF
              have KS := n_KS
              clear n_K0 n_K1 n_K2 n_KB n_KF n_KS
              clear hd hb
              refine ko hK ?_
              clear hK K
              refine tk 5 ?_
              refine wpAnyH_ready (rs := [6]) (by kernel_rfl) (by simp) ?_
              refine AllReadyH.cons rfl (fun K hK => ?_) AllReadyH.nil
              show (if Region.wanted ⟨none, .store _ (.tmp 28) (.tmp 26), _, _, _, none⟩ _ = true then Oper.wp _ ⟨none, .store _ (.tmp 28) (.tmp 26), _, _, _, none⟩ _ _ _ _ else _)
              have e0 := (blk_cell K1.out qb).trans (value_Of.pv_get _ qb (by have := HLEN.out; (try simp only [List.length_set]); omega))
              have f0 := blk_frozen K1.out qb
              go_simp
              clear e0 f0
              refine ko hK ?_
              clear hK K
              have n_K0 := Aside0.mk (blk_far K0.out (p := ⟨w.heap.size + 1, qb, none⟩) (by show w.heap.size ≠ w.heap.size + 1; omega) (.int .i8 vb))
              have n_K1 := Aside0.mk ((blk_set K1.out qb (.int .i8 vb)).trans (by rw [value_Of.pv_set]))
              have n_K2 := Aside0.mk (blk_far K2.out (p := ⟨w.heap.size + 1, qb, none⟩) (by show w.heap.size + 1 + 1 ≠ w.heap.size + 1; omega) (.int .i8 vb))
              have n_KB := Aside0.mk ((KB.out).setCell (p := ⟨w.heap.size + 1, qb, none⟩) (Nat.le_succ _) (.int .i8 vb))
              have n_KF := Aside0.mk (blk_far KF.out (p := ⟨w.heap.size + 1, qb, none⟩) (by show gF ≠ w.heap.size + 1; have := HGF.out; omega) (.int .i8 vb))
              have n_KS := Aside0.mk (blk_far KS.out (p := ⟨w.heap.size + 1, qb, none⟩) (by show gS ≠ w.heap.size + 1; have := HGS.out; omega) (.int .i8 vb))
              clear K0 K1 K2 KB KF KS
              have K0 := n_K0
              have K1 := n_K1
              have K2 := n_K2
              have KB := n_KB
              have KF := n_KF
              have KS := n_KS
              clear n_K0 n_K1 n_K2 n_KB n_KF n_KS
              refine wpAnyH_done (by kernel_rfl) ?_ _
              have K1n := K1.out
              rw [← HNX.out] at K1n
              have K1m := Aside0.mk K1n
              clear K1n
              have ew2 : IntKind.i64.wrap ((i : Int) + 1) = (i : Int) + 1 := IntWalk.i64_in _ (by omega)
              go_wp2
              go_roundg g2
              case measure => omega
              case rel => exact ⟨i + 1, by simp, by omega, K0, K1m, K2, KB, KF, by omega⟩
            refine AllReadyH.cons rfl (fun K hK => ?_) AllReadyH.nil
            show (if Region.wanted ⟨some 25, .load _ (.tmp 4), _, _, _, none⟩ _ = true then Oper.wp _ ⟨some 25, .load _ (.tmp 4), _, _, _, none⟩ _ _ _ _ else _)
            have e0 := (blk_cell KS.out 0).trans (show _ = some (Value.int .i64 (i : Int)) from rfl)
            go_simp
            clear e0
            refine ko hK ?_
            clear hK K
            refine wpAnyH_ready (rs := [1]) (by kernel_rfl) (by simp) ?_
            refine AllReadyH.cons rfl (fun K hK => ?_) AllReadyH.nil
            show (if Region.wanted ⟨some 24, .call _, _, _, _, none⟩ _ = true then Oper.wp _ ⟨some 24, .call _, _, _, _, none⟩ _ _ _ _ else _)
            go_simp
            refine (board_Start.far_calls _ _ _ _ _ gS gF KS.out KF.out HQB.out).mono ?_
            rintro e w7 ⟨rfl, hd⟩
            have hb := hd.below
            have n_K0 := Aside0.mk (blk_below K0.out hb)
            have n_K1 := Aside0.mk (blk_below K1.out hb)
            have n_K2 := Aside0.mk (blk_below K2.out hb)
            have n_KB := Aside0.mk (below_step KB.out hb)
            have n_KF := Aside0.mk (blk_below KF.out hb)
            have n_KS := Aside0.mk (blk_below KS.out hb)
            clear K0 K1 K2 KB KF KS
            have K0 := n_K0
            have K1 := n_K1
            have K2 := n_K2
            have KB := n_KB
            have KF := n_KF
            have KS := n_KS
            clear n_K0 n_K1 n_K2 n_KB n_KF n_KS
            clear hd hb
            refine ko hK ?_
            clear hK K
            refine wpAnyH_ready (rs := [3]) (by kernel_rfl) (by simp) ?_
            refine AllReadyH.cons rfl (fun K hK => ?_) AllReadyH.nil
            show (if Region.wanted ⟨some 26, .call _, _, _, _, none⟩ _ = true then Oper.wp _ ⟨some 26, .call _, _, _, _, none⟩ _ _ _ _ else _)
            go_simp
            refine (piece_Of.calls _ _ _ _ HVB.out).mono ?_
            rintro e w7 ⟨rfl, hd⟩
            have hb := hd.below
            have n_K0 := Aside0.mk (blk_below K0.out hb)
            have n_K1 := Aside0.mk (blk_below K1.out hb)
            have n_K2 := Aside0.mk (blk_below K2.out hb)
            have n_KB := Aside0.mk (below_step KB.out hb)
            have n_KF := Aside0.mk (blk_below KF.out hb)
            have n_KS := Aside0.mk (blk_below KS.out hb)
            clear K0 K1 K2 KB KF KS
            have K0 := n_K0
            have K1 := n_K1
            have K2 := n_K2
            have KB := n_KB
            have KF := n_KF
            have KS := n_KS
            clear n_K0 n_K1 n_K2 n_KB n_KF n_KS
            clear hd hb
            refine ko hK ?_
            clear hK K
            refine tk 5 ?_
            refine wpAnyH_ready (rs := [6]) (by kernel_rfl) (by simp) ?_
            refine AllReadyH.cons rfl (fun K hK => ?_) AllReadyH.nil
            show (if Region.wanted ⟨none, .store _ (.tmp 28) (.tmp 26), _, _, _, none⟩ _ = true then Oper.wp _ ⟨none, .store _ (.tmp 28) (.tmp 26), _, _, _, none⟩ _ _ _ _ else _)
            have e0 := (blk_cell K1.out qb).trans (value_Of.pv_get _ qb (by have := HLEN.out; (try simp only [List.length_set]); omega))
            have f0 := blk_frozen K1.out qb
            go_simp
            clear e0 f0
            refine ko hK ?_
            clear hK K
            have n_K0 := Aside0.mk (blk_far K0.out (p := ⟨w.heap.size + 1, qb, none⟩) (by show w.heap.size ≠ w.heap.size + 1; omega) (.int .i8 vb))
            have n_K1 := Aside0.mk ((blk_set K1.out qb (.int .i8 vb)).trans (by rw [value_Of.pv_set]))
            have n_K2 := Aside0.mk (blk_far K2.out (p := ⟨w.heap.size + 1, qb, none⟩) (by show w.heap.size + 1 + 1 ≠ w.heap.size + 1; omega) (.int .i8 vb))
            have n_KB := Aside0.mk ((KB.out).setCell (p := ⟨w.heap.size + 1, qb, none⟩) (Nat.le_succ _) (.int .i8 vb))
            have n_KF := Aside0.mk (blk_far KF.out (p := ⟨w.heap.size + 1, qb, none⟩) (by show gF ≠ w.heap.size + 1; have := HGF.out; omega) (.int .i8 vb))
            have n_KS := Aside0.mk (blk_far KS.out (p := ⟨w.heap.size + 1, qb, none⟩) (by show gS ≠ w.heap.size + 1; have := HGS.out; omega) (.int .i8 vb))
            clear K0 K1 K2 KB KF KS
            have K0 := n_K0
            have K1 := n_K1
            have K2 := n_K2
            have KB := n_KB
            have KF := n_KF
            have KS := n_KS
            clear n_K0 n_K1 n_K2 n_KB n_KF n_KS
            refine wpAnyH_done (by kernel_rfl) ?_ _
            have K1n := K1.out
            rw [← HNX.out] at K1n
            have K1m := Aside0.mk K1n
            clear K1n
            have ew2 : IntKind.i64.wrap ((i : Int) + 1) = (i : Int) + 1 := IntWalk.i64_in _ (by omega)
            go_wp2
            go_roundg g2
            case measure => omega
            case rel => exact ⟨i + 1, by simp, by omega, K0, K1m, K2, KB, KF, by omega⟩
end Go.Proofs.YtigenhbmgpfffaaGreatDoor.Pa
