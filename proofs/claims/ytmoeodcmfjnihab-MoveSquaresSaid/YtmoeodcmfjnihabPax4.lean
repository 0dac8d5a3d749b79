-- Printed by a program of this session: the kit's printer, with contracts of this session's own among its functions.
import Derived.Test.YtmoeodcmfjnihabPax0
import Derived.Test.YtmoeodcmfjnihabPax2
import Derived.Test.YtmoeodcmfjnihabPax3
namespace Go.Proofs.Ytmoeodcmfjnihab.Pa
open Go.RowKit Go.Proofs.YtmoeodcmfjnihabW.PrintWords Go.Proofs.YtmoeodcmfjnihabW.PrintLast Go.Proofs.YtmoeodcmfjnihabW.PrintMore
attribute [local go_sem] max2_int min2_int max_two min_two max_three min_three max_four min_four   -- for this text's walks alone
set_option linter.unusedVariables false
set_option linter.unusedSimpArgs false

/-! ### set_Square: function 52 -/
def set_Square.f (a0 : Int) (a1 : Int) : Option (Int) := if a0 < 0 then (some (-1)) else (if a0 > 8 then (some (-1)) else (if a1 < 0 then (some (-1)) else (if a1 > 8 then (some (-1)) else (some (wrap64 ((wrap64 (9 * a0)) + a1))))))
set_option maxHeartbeats 8000000 in
set_option maxRecDepth 100000 in
theorem set_Square.calls (a0 : Int) (a1 : Int) (r : Int) (w : World) (h : set_Square.f a0 a1 = some r) :
    Calls Try.prog 52 #[.int .i64 a0, .int .i64 a1] w fun e w' => e = .returned (.int .i64 r) ∧ Drawn0 w w' := by
  have H : (if a0 < 0 then (some (-1)) else (if a0 > 8 then (some (-1)) else (if a1 < 0 then (some (-1)) else (if a1 > 8 then (some (-1)) else (some (wrap64 ((wrap64 (9 * a0)) + a1))))))) = some r := h
  clear h
  by_cases c3 : a0 < 0
  · rw [if_pos c3] at H
    have c3b0 : decide (a0 < 0) = true := decide_eq_true c3
    clear c3
    obtain rfl := Option.some.inj H
    go_enter Try.func52, Try.ntmps52
    go_wp2
    go_ret
    exact ⟨by first | rfl | (simp; done) | (simp [*]; done), by repeat (first | exact Drawn0.refl _ | apply Drawn0.step)⟩
  · rw [if_neg c3] at H
    have c3b0 : decide (a0 < 0) = false := decide_eq_false c3
    clear c3
    by_cases c4 : a0 > 8
    · rw [if_pos c4] at H
      have c4b0 : decide (8 < a0) = true := decide_eq_true c4
      clear c4
      obtain rfl := Option.some.inj H
      go_enter Try.func52, Try.ntmps52
      go_wp2
      go_ret
      exact ⟨by first | rfl | (simp; done) | (simp [*]; done), by repeat (first | exact Drawn0.refl _ | apply Drawn0.step)⟩
    · rw [if_neg c4] at H
      have c4b0 : decide (8 < a0) = false := decide_eq_false c4
      clear c4
      by_cases c5 : a1 < 0
      · rw [if_pos c5] at H
        have c5b0 : decide (a1 < 0) = true := decide_eq_true c5
        clear c5
        obtain rfl := Option.some.inj H
        go_enter Try.func52, Try.ntmps52
        go_wp2
        go_ret
        exact ⟨by first | rfl | (simp; done) | (simp [*]; done), by repeat (first | exact Drawn0.refl _ | apply Drawn0.step)⟩
      · rw [if_neg c5] at H
        have c5b0 : decide (a1 < 0) = false := decide_eq_false c5
        clear c5
        by_cases c6 : a1 > 8
        · rw [if_pos c6] at H
          have c6b0 : decide (8 < a1) = true := decide_eq_true c6
          clear c6
          obtain rfl := Option.some.inj H
          go_enter Try.func52, Try.ntmps52
          go_wp2
          go_ret
          exact ⟨by first | rfl | (simp; done) | (simp [*]; done), by repeat (first | exact Drawn0.refl _ | apply Drawn0.step)⟩
        · rw [if_neg c6] at H
          have c6b0 : decide (8 < a1) = false := decide_eq_false c6
          clear c6
          obtain rfl := Option.some.inj H
          go_enter Try.func52, Try.ntmps52
          go_wp2
          go_ret
          exact ⟨by first | rfl | (simp; done) | (simp [*]; done), by repeat (first | exact Drawn0.refl _ | apply Drawn0.step)⟩

/-! ### move_square: function 47 -/
def move_square.f (a0 : Int) (a1 : Int) : Option (Int × Bool) := (set_Square.f (wrap64 (wrap32 (a0 - 49))) (wrap64 (wrap32 (a1 - 97)))).bind fun t133 => (some (t133, decide (t133 ≥ 0)))
set_option maxHeartbeats 8000000 in
set_option maxRecDepth 100000 in
theorem move_square.calls (a0 : Int) (a1 : Int) (r1 : Int) (r2 : Bool) (w : World) (h : move_square.f a0 a1 = some (r1, r2)) :
    Calls Try.prog 47 #[.int .i32 a0, .int .i32 a1] w fun e w' => e = .returned (.tuple #[.int .i64 r1, .bool r2]) ∧ Drawn0 w w' := by
  have H : ((set_Square.f (wrap64 (wrap32 (a0 - 49))) (wrap64 (wrap32 (a1 - 97)))).bind fun t133 => (some (t133, decide (t133 ≥ 0)))) = some (r1, r2) := h
  clear h
  replace H := Option.bind_eq_some_iff.mp H
  obtain ⟨t133, A30, H⟩ := H
  replace H : (some (t133, decide (t133 ≥ 0))) = some (r1, r2) := H
  have A3 := Aside0.mk A30
  clear A30
  simp only [Option.some.injEq, Prod.mk.injEq] at H
  obtain ⟨rfl, rfl⟩ := H
  go_enter Try.func47, Try.ntmps47
  go_wp2_with (first | ((with_reducible refine gate_callee (f := 52) rfl ?_); refine goesL_ (some 13) rfl rfl Try.func52 (by kernel_rfl) rfl #[.int .i64 (wrap64 (wrap32 (a0 - 49))), .int .i64 (wrap64 (wrap32 (a1 - 97)))] rfl (by (try simp only [List.map_toArray, List.map_cons, List.map_nil]); first | done | rfl | (simp only [List.length_drop, List.length_take]; rfl)) ?_; (with_reducible refine (set_Square.calls (wrap64 (wrap32 (a0 - 49))) (wrap64 (wrap32 (a1 - 97))) t133 _ A3.out).mono ?_); rintro e w' ⟨rfl, ⟨nd, rfl⟩⟩; refine ⟨_, rfl, ?_⟩))
  go_ret2
  exact ⟨by first | rfl | (simp; done) | (simp [*]; done), by repeat (first | exact Drawn0.refl _ | apply Drawn0.step)⟩

/-! ### move_Parse: function 25 -/
def move_Parse.runes (s : ByteArray) : Nat → Nat → List Int
  | 0, _ => []
  | n + 1, i => if i < s.size then ((Utf8.decode s i).1 : Int) :: move_Parse.runes s n (i + (Utf8.decode s i).2) else []
def move_Parse.g (l : List Int) : Option (Int × Int × Int × Bool × Int) :=
  if l.length = 4 ∨ l.length = 5 then
    if rd l 1 = 42 then
      (piece_Parse.f (rd l 0) false).bind fun p => (move_square.f (rd l 2) (rd l 3)).bind fun q => (piece_Side.f 9 p).bind fun d =>
        if d = 0 ∧ p ≠ 8 ∧ q.2 = true ∧ l.length = 4 then some (0, q.1, wrap64 p, false, 0) else some (0, 0, 0, false, 70)
    else
      (move_square.f (rd l 0) (rd l 1)).bind fun q => (move_square.f (rd l 2) (rd l 3)).bind fun u =>
        if q.2 = true ∧ u.2 = true ∧ q.1 ≠ u.1 ∧ (l.length = 4 ∨ rd l 4 = 43) then some (q.1, u.1, 0, decide ((l.length : Int) = 5), 0) else some (0, 0, 0, false, 70)
  else some (0, 0, 0, false, 70)
def move_Parse.f (a0 : ByteArray) : Option (Int × Int × Int × Bool × Int) := move_Parse.g (move_Parse.runes a0 6 0)
theorem move_Parse.len_le (s : ByteArray) : ∀ n i, (move_Parse.runes s n i).length ≤ n
  | 0, _ => by simp [move_Parse.runes]
  | n + 1, i => by
    unfold move_Parse.runes
    split
    · have := move_Parse.len_le s n (i + (Utf8.decode s i).2)
      simp only [List.length_cons]; omega
    · simp
theorem move_Parse.runes_end (s : ByteArray) (n i : Nat) (h : ¬ i < s.size) : move_Parse.runes s n i = [] := by
  cases n
  · rfl
  · unfold move_Parse.runes; rw [if_neg h]
theorem move_Parse.runes_next (s : ByteArray) (n i : Nat) (h : i < s.size) : move_Parse.runes s (n + 1) i = ((Utf8.decode s i).1 : Int) :: move_Parse.runes s n (i + (Utf8.decode s i).2) := by
  show (if i < s.size then _ else _) = _
  rw [if_pos h]
structure move_Parse.St (w W : World) (mb : Nat) (A : Option Addr) (L : List Int) : Prop where
  res : W.heap[w.heap.size]? = some (.cells #[.int .i64 0, .int .i64 0, .int .i64 0, .bool false] 38 (0, 0))
  m : W.heap[mb]? = some (.cells #[.int .i64 0, .int .i64 0, .int .i64 0, .bool false] 38 (0, 0))
  cells : (Kd.int .i32).C W A L.length L
  bel : Below w.heap.size w W
  lt : w.heap.size < mb
theorem move_Parse.St.step {w W W' : World} {mb : Nat} {A : Option Addr} {L : List Int} (s : move_Parse.St w W mb A L) (b : Below W.heap.size W W') : move_Parse.St w W' mb A L :=
  ⟨(b.block _ (Array.getElem?_eq_some_iff.1 s.res).1).trans s.res, (b.block _ (Array.getElem?_eq_some_iff.1 s.m).1).trans s.m, Kd.C_below s.cells b, s.bel.trans (b.mono s.bel.size), s.lt⟩
set_option maxHeartbeats 4000000 in
set_option maxRecDepth 100000 in
theorem move_Parse.calls (a0 : ByteArray) (r1 : Int) (r2 : Int) (r3 : Int) (r4 : Bool) (r5 : Int) (w : World) (h : move_Parse.f a0 = some (r1, r2, r3, r4, r5)) :
    Calls Try.prog 25 #[.string a0] w fun e w' => e = .returned (.tuple #[.agg #[.int .i64 r1, .int .i64 r2, .int .i64 r3, .bool r4], .int .i64 r5]) ∧ Below w.heap.size w w' := by
  have hu := Try.underlying38
  obtain ⟨L, hL⟩ : ∃ L, L = move_Parse.runes a0 6 0 := ⟨_, rfl⟩
  have hg : move_Parse.g L = some (r1, r2, r3, r4, r5) := by rw [hL]; exact h
  have HL := Aside0.mk hL
  have HG := Aside0.mk hg
  clear h hL hg
  have hit0 : ((w.alloc (Obj.cells #[.int .i64 0, .int .i64 0, .int .i64 0, .bool false] 38)).iter a0 0).heap[w.heap.size + 1]? = some (.stringIter a0 0) := by
    have e := World.iter_heap (w.alloc (Obj.cells #[.int .i64 0, .int .i64 0, .int .i64 0, .bool false] 38)) a0 0
    have e2 : (w.alloc (Obj.cells #[.int .i64 0, .int .i64 0, .int .i64 0, .bool false] 38)).heap.size = w.heap.size + 1 := by simp [go_sem]
    rw [e2] at e
    exact e
  have hbk0 : ((w.alloc (Obj.cells #[.int .i64 0, .int .i64 0, .int .i64 0, .bool false] 38)).iter a0 0).heap[w.heap.size]? = some (.cells #[.int .i64 0, .int .i64 0, .int .i64 0, .bool false] 38 (0, 0)) := by
    show ((w.heap.push _).push _)[w.heap.size]? = _
    simp [Array.getElem?_push]
  have hbw0 : Below w.heap.size w ((w.alloc (Obj.cells #[.int .i64 0, .int .i64 0, .int .i64 0, .bool false] 38)).iter a0 0) := ((Below.refl _ w).alloc (Nat.le_refl _) _).alloc (by simp [go_sem]) _
  go_enter Try.func25, Try.ntmps25
  go_wp2
  generalize ((w.alloc (Obj.cells #[.int .i64 0, .int .i64 0, .int .i64 0, .bool false] 38)).iter a0 0) = W0 at *
  have HI := Aside0.mk hit0
  have HC := Aside0.mk hbk0
  have HB := Aside0.mk hbw0
  clear hit0 hbk0 hbw0
  go_loopg [4] 7 (fun gf s4 wx => ∃ (i : Nat) (xs : List Int), Aside0 (Kd.R (Kd.int .i32) 21 wx (w.heap.size + 2) (fun _ => True) s4 xs) ∧ Aside0 (wx.heap[w.heap.size + 1]? = some (.stringIter a0 i)) ∧ Aside0 (wx.heap[w.heap.size]? = some (.cells #[.int .i64 0, .int .i64 0, .int .i64 0, .bool false] 38 (0, 0))) ∧ Aside0 (Below w.heap.size w wx) ∧ Aside0 (w.heap.size + 2 ≤ wx.heap.size) ∧ xs.length ≤ 6 ∧ Aside0 (xs ++ move_Parse.runes a0 (6 - xs.length) i = move_Parse.runes a0 6 0) ∧ 7 ≤ gf + xs.length)
  case atStart => exact ⟨0, [], ⟨Kd.R_nil _ _ _ _ _⟩, HI, HC, HB, ⟨by have := (Array.getElem?_eq_some_iff.1 HI.out).1; omega⟩, by simp, ⟨by simp⟩, by simp⟩
  case round =>
    clear HI HC HB
    obtain ⟨i, xs, HO, HI, HC, HB, HS, hlen, HR, hgf⟩ := hrel
    obtain ⟨A, c, hsl, hle, hrd⟩ := Kd.R_reads HO.out
    subst hsl
    by_cases hi : i < a0.size
    · have hnx : ∀ ty, (Instr.next (.pointer (some ⟨w.heap.size + 1, 0, none⟩)) true ty).run Try.prog wr = _ := fun ty => Lib.run_next_any_at wr (w.heap.size + 1) a0 i ty HI.out hi
      have hit1 := Lib.iterAt_heap wr (w.heap.size + 1) a0 i (i + (Utf8.decode a0 i).2) HI.out
      have hbi := Lib.below_iterAt (Below.refl (w.heap.size + 1) wr) (k := w.heap.size + 1) (Nat.le_refl _) a0 (i + (Utf8.decode a0 i).2)
      have hbk1 := (hbi.block w.heap.size (by omega)).trans HC.out
      have hbw1 := HB.out.trans (hbi.mono (by omega))
      have hO1 : Kd.R (Kd.int .i32) 21 (wr.iterAt (w.heap.size + 1) a0 (i + (Utf8.decode a0 i).2)) (w.heap.size + 2) (fun _ => True) (.slice A xs.length c) xs := Kd.R_mono (Kd.R_move (Kd.R_bound HO.out) (fun k hk => Lib.iterAt_other _ _ _ _ _ (by have := hk.2.1; omega))) (fun _ _ => trivial)
      have hs1 : w.heap.size + 2 ≤ (wr.iterAt (w.heap.size + 1) a0 (i + (Utf8.decode a0 i).2)).heap.size := by rw [Lib.iterAt_size]; exact HS.out
      clear hbi
      generalize wr.iterAt (w.heap.size + 1) a0 (i + (Utf8.decode a0 i).2) = W1 at *
      have HO1 := Aside0.mk hO1
      have HI1 := Aside0.mk hit1
      have HC1 := Aside0.mk hbk1
      have HB1 := Aside0.mk hbw1
      have HS1 := Aside0.mk hs1
      have HRD := Aside0.mk hrd
      clear hO1 hit1 hbk1 hbw1 hs1 hrd
      by_cases h6 : xs.length = 6
      · have hLL : L.length = 6 := by rw [HL.out, ← HR.out, h6]; simp [move_Parse.runes, h6]
        have hgg := HG.out
        unfold move_Parse.g at hgg
        rw [if_neg (by omega)] at hgg
        obtain ⟨rfl, rfl, rfl, rfl, rfl⟩ : r1 = 0 ∧ r2 = 0 ∧ r3 = 0 ∧ r4 = false ∧ r5 = 70 := by
          simp only [Option.some.injEq, Prod.mk.injEq] at hgg
          obtain ⟨e1, e2, e3, e4, e5⟩ := hgg
          exact ⟨e1.symm, e2.symm, e3.symm, e4.symm, e5.symm⟩
        rw [h6]
        have HLL := Aside0.mk hLL
        clear hgg hLL
        go_upto_region 13 with (fail)
        have ST : move_Parse.St w (W1.alloc (Obj.cells #[.int .i64 0, .int .i64 0, .int .i64 0, .bool false] 38)) W1.heap.size none [] := ⟨((below_alloc (Below.refl W1.heap.size W1) _).block _ (by have := HS1.out; omega)).trans HC1.out, heap_alloc_new _ _, ⟨rfl, by simp, by simp⟩, HB1.out.trans ((Below.refl w.heap.size W1).alloc (by have := HS1.out; omega) _), by have := HS1.out; omega⟩
        generalize W1.alloc (Obj.cells #[.int .i64 0, .int .i64 0, .int .i64 0, .bool false] 38) = W at *
        generalize W1.heap.size = mb at *
        have rz0 : W.cell? ⟨w.heap.size, 0, none⟩ = some (.int .i64 0) := (blk_cell ST.res 0).trans rfl
        have mz0 : W.cell? ⟨mb, 0, none⟩ = some (.int .i64 0) := (blk_cell ST.m 0).trans rfl
        have rf0 := blk_frozen ST.res 0
        have mf0 := blk_frozen ST.m 0
        have rz1 : W.cell? ⟨w.heap.size, 1, none⟩ = some (.int .i64 0) := (blk_cell ST.res 1).trans rfl
        have mz1 : W.cell? ⟨mb, 1, none⟩ = some (.int .i64 0) := (blk_cell ST.m 1).trans rfl
        have rf1 := blk_frozen ST.res 1
        have mf1 := blk_frozen ST.m 1
        have rz2 : W.cell? ⟨w.heap.size, 2, none⟩ = some (.int .i64 0) := (blk_cell ST.res 2).trans rfl
        have mz2 : W.cell? ⟨mb, 2, none⟩ = some (.int .i64 0) := (blk_cell ST.m 2).trans rfl
        have rf2 := blk_frozen ST.res 2
        have mf2 := blk_frozen ST.m 2
        have rz3 : W.cell? ⟨w.heap.size, 3, none⟩ = some (.bool false) := (blk_cell ST.res 3).trans rfl
        have mz3 : W.cell? ⟨mb, 3, none⟩ = some (.bool false) := (blk_cell ST.m 3).trans rfl
        have rf3 := blk_frozen ST.res 3
        have mf3 := blk_frozen ST.m 3
        go_wp2
        refine bodyPost_ret (v := .tuple #[.agg #[.int .i64 0, .int .i64 0, .int .i64 0, .bool false], .int .i64 70]) (by simp [results, Try.results25, go_sem, rz0, rz1, rz2, rz3]) rfl ⟨rfl, ?_⟩
        exact ((((ST.bel.setCell (p := ⟨w.heap.size, 0, none⟩) (Nat.le_refl _) _).setCell (p := ⟨w.heap.size, 1, none⟩) (Nat.le_refl _) _).setCell (p := ⟨w.heap.size, 2, none⟩) (Nat.le_refl _) _).setCell (p := ⟨w.heap.size, 3, none⟩) (Nat.le_refl _) _)
      · have h6b : ((xs.length : Int) == 6) = false := by simp; omega
        have hnxt := move_Parse.runes_next a0 (5 - xs.length) i hi
        obtain ⟨ys, hys⟩ : ∃ ys, ys = xs ++ [((Utf8.decode a0 i).1 : Int)] := ⟨_, rfl⟩
        have hR1 : ys ++ move_Parse.runes a0 (6 - ys.length) (i + (Utf8.decode a0 i).2) = move_Parse.runes a0 6 0 := by
          rw [hys, ← HR.out, show 6 - xs.length = (5 - xs.length) + 1 by omega, hnxt]
          simp [show 6 - (xs.length + 1) = 5 - xs.length by omega]
        have hyl : ys.length = xs.length + 1 := by rw [hys]; simp
        have HR1 := Aside0.mk hR1
        have HYS := Aside0.mk hys
        have HYL := Aside0.mk hyl
        clear hR1 hys hyl hnxt
        obtain ⟨g', rfl⟩ : ∃ g', gk = g' + 1 := ⟨gk - 1, by omega⟩
        go_wp2_with (first | ((with_reducible refine gate_builtin (b := .append) (xs := #[.tmp 23, .tmp 25]) rfl ?_); at_builtin; refine Kd.R_append (Kd.int .i32) (w0 := W1) (w.heap.size + 2) rfl (.tmp 23) (.tmp 25) 61 21 (.int .i32 0) 4 rfl Try.underlying61 (by kernel_rfl) rfl (by decide) (by omega) _ xs ((Utf8.decode a0 i).1 : Int) [.int .i32 ((Utf8.decode a0 i).1 : Int)] (fun _ => True) (fun _ => False) rfl rfl ?aP (fun _ hk => hk.elim) ?aF ?aO ?aB ?aS ?aL ?_; (case aP => exact rfl); (case aB => exact Below.refl _ _); (case aF => exact (fun _ _ => trivial)); (case aO => exact HO1.out); (case aS => exact HS1.out); (case aL => omega); intro v1 w9 ho hb hg hat; rw [← HYS.out] at ho; have HO9 := Aside0.mk ho; have HB9 := Aside0.mk hb; clear ho hb hg hat))
        go_roundg g'
        case measure => omega
        case rel => exact ⟨i + (Utf8.decode a0 i).2, ys, HO9, ⟨(HB9.out.block _ (by omega)).trans HI1.out⟩, ⟨(HB9.out.block _ (by omega)).trans HC1.out⟩, ⟨HB1.out.trans (HB9.out.mono (by omega))⟩, ⟨Nat.le_trans HS1.out HB9.out.size⟩, by have := HYL.out; omega, HR1, by have := HYL.out; omega⟩
    · have hnx : ∀ ty, (Instr.next (.pointer (some ⟨w.heap.size + 1, 0, none⟩)) true ty).run Try.prog wr = _ := fun ty => Lib.run_next_end_at wr (w.heap.size + 1) a0 i ty HI.out hi
      have hLx : L = xs := by rw [HL.out, ← HR.out, move_Parse.runes_end _ _ _ hi, List.append_nil]
      subst hLx
      have HRD := Aside0.mk hrd
      clear hrd
      go_upto_region 13 with (fail)
      clear hnx
      have ST : move_Parse.St w (wr.alloc (Obj.cells #[.int .i64 0, .int .i64 0, .int .i64 0, .bool false] 38)) wr.heap.size A L := ⟨((below_alloc (Below.refl wr.heap.size wr) _).block _ (by have := HS.out; omega)).trans HC.out, heap_alloc_new _ _, Kd.C_alloc HRD.out _, HB.out.trans ((Below.refl w.heap.size wr).alloc (by have := HS.out; omega) _), by have := HS.out; omega⟩
      generalize wr.alloc (Obj.cells #[.int .i64 0, .int .i64 0, .int .i64 0, .bool false] 38) = W at *
      generalize wr.heap.size = mb at *
      have hgg := HG.out
      unfold move_Parse.g at hgg
      clear HI HC HB HS HR HO HG HRD
      by_cases hlen4 : L.length = 4
      · rw [if_pos (by omega)] at hgg
        rw [hlen4]
        have rz0 : W.cell? ⟨w.heap.size, 0, none⟩ = some (.int .i64 0) := (blk_cell ST.res 0).trans rfl
        have mz0 : W.cell? ⟨mb, 0, none⟩ = some (.int .i64 0) := (blk_cell ST.m 0).trans rfl
        have rf0 := blk_frozen ST.res 0
        have mf0 := blk_frozen ST.m 0
        have rz1 : W.cell? ⟨w.heap.size, 1, none⟩ = some (.int .i64 0) := (blk_cell ST.res 1).trans rfl
        have mz1 : W.cell? ⟨mb, 1, none⟩ = some (.int .i64 0) := (blk_cell ST.m 1).trans rfl
        have rf1 := blk_frozen ST.res 1
        have mf1 := blk_frozen ST.m 1
        have rz2 : W.cell? ⟨w.heap.size, 2, none⟩ = some (.int .i64 0) := (blk_cell ST.res 2).trans rfl
        have mz2 : W.cell? ⟨mb, 2, none⟩ = some (.int .i64 0) := (blk_cell ST.m 2).trans rfl
        have rf2 := blk_frozen ST.res 2
        have mf2 := blk_frozen ST.m 2
        have rz3 : W.cell? ⟨w.heap.size, 3, none⟩ = some (.bool false) := (blk_cell ST.res 3).trans rfl
        have mz3 : W.cell? ⟨mb, 3, none⟩ = some (.bool false) := (blk_cell ST.m 3).trans rfl
        have rf3 := blk_frozen ST.res 3
        have mf3 := blk_frozen ST.m 3
        obtain ⟨ad0, ea0, g0⟩ := Kd.at_int ST.cells 0 (by omega) (by omega)
        cases ea0
        replace g0 : W.cell? ad0 = some (.int .i32 (rd L 0)) := by simpa [Addr.add] using g0
        obtain ⟨ad1, ea1, g1⟩ := Kd.at_int ST.cells 1 (by omega) (by omega)
        cases ea1
        replace g1 : W.cell? ⟨ad0.block, ad0.off + 1, none⟩ = some (.int .i32 (rd L 1)) := by simpa [Addr.add] using g1
        by_cases h42 : rd L 1 = 42
        · rw [if_pos h42] at hgg
          have h42b : (rd L 1 == 42) = true := by simpa using h42
          obtain ⟨p, hp, hgg⟩ := Option.bind_eq_some_iff.mp hgg
          obtain ⟨⟨q, ok⟩, hq, hgg⟩ := Option.bind_eq_some_iff.mp hgg
          obtain ⟨d, hd, hgg⟩ := Option.bind_eq_some_iff.mp hgg
          dsimp only at hgg
          have HP := Aside0.mk hp
          have HQ := Aside0.mk hq
          have HD := Aside0.mk hd
          have HGG := Aside0.mk hgg
          clear hp hq hd hgg
          go_wp2_with (go_at_call 46; refine (piece_Parse.calls _ _ _ _ HP.out).mono ?_; rintro e w5 ⟨rfl, hb5⟩)
          clear rz0 mz0 rf0 mf0 rz1 mz1 rf1 mf1 rz2 mz2 rf2 mf2 rz3 mz3 rf3 mf3
          have ST5 := ST.step hb5
          clear ST hb5
          have ST := ST5
          clear ST5
          have rz0 : w5.cell? ⟨w.heap.size, 0, none⟩ = some (.int .i64 0) := (blk_cell ST.res 0).trans rfl
          have mz0 : w5.cell? ⟨mb, 0, none⟩ = some (.int .i64 0) := (blk_cell ST.m 0).trans rfl
          have rf0 := blk_frozen ST.res 0
          have mf0 := blk_frozen ST.m 0
          have rz1 : w5.cell? ⟨w.heap.size, 1, none⟩ = some (.int .i64 0) := (blk_cell ST.res 1).trans rfl
          have mz1 : w5.cell? ⟨mb, 1, none⟩ = some (.int .i64 0) := (blk_cell ST.m 1).trans rfl
          have rf1 := blk_frozen ST.res 1
          have mf1 := blk_frozen ST.m 1
          have rz2 : w5.cell? ⟨w.heap.size, 2, none⟩ = some (.int .i64 0) := (blk_cell ST.res 2).trans rfl
          have mz2 : w5.cell? ⟨mb, 2, none⟩ = some (.int .i64 0) := (blk_cell ST.m 2).trans rfl
          have rf2 := blk_frozen ST.res 2
          have mf2 := blk_frozen ST.m 2
          have rz3 : w5.cell? ⟨w.heap.size, 3, none⟩ = some (.bool false) := (blk_cell ST.res 3).trans rfl
          have mz3 : w5.cell? ⟨mb, 3, none⟩ = some (.bool false) := (blk_cell ST.m 3).trans rfl
          have rf3 := blk_frozen ST.res 3
          have mf3 := blk_frozen ST.m 3
          obtain ⟨ad2, ea2, g2⟩ := Kd.at_int ST.cells 2 (by omega) (by omega)
          cases ea2
          replace g2 : w5.cell? ⟨ad0.block, ad0.off + 2, none⟩ = some (.int .i32 (rd L 2)) := by simpa [Addr.add] using g2
          obtain ⟨ad3, ea3, g3⟩ := Kd.at_int ST.cells 3 (by omega) (by omega)
          cases ea3
          replace g3 : w5.cell? ⟨ad0.block, ad0.off + 3, none⟩ = some (.int .i32 (rd L 3)) := by simpa [Addr.add] using g3
          go_quiet (first | (go_at_call 47; refine (move_square.calls _ _ _ _ _ HQ.out).mono ?_; rintro e w' ⟨rfl, ⟨nd, rfl⟩⟩; first | exact ⟨rfl, _, World.drewN_drewN _ _ _⟩ | exact ⟨rfl, _, rfl⟩))
          clear rz0 mz0 rf0 mf0 rz1 mz1 rf1 mf1 rz2 mz2 rf2 mf2 rz3 mz3 rf3 mf3
          have ST5 := ST.step (pw_below_drewN (Below.refl _ _) nq)
          clear ST
          have ST := ST5
          clear ST5
          generalize w5.drewN nq = W2 at *
          have rz0 : W2.cell? ⟨w.heap.size, 0, none⟩ = some (.int .i64 0) := (blk_cell ST.res 0).trans rfl
          have mz0 : W2.cell? ⟨mb, 0, none⟩ = some (.int .i64 0) := (blk_cell ST.m 0).trans rfl
          have rf0 := blk_frozen ST.res 0
          have mf0 := blk_frozen ST.m 0
          have rz1 : W2.cell? ⟨w.heap.size, 1, none⟩ = some (.int .i64 0) := (blk_cell ST.res 1).trans rfl
          have mz1 : W2.cell? ⟨mb, 1, none⟩ = some (.int .i64 0) := (blk_cell ST.m 1).trans rfl
          have rf1 := blk_frozen ST.res 1
          have mf1 := blk_frozen ST.m 1
          have rz2 : W2.cell? ⟨w.heap.size, 2, none⟩ = some (.int .i64 0) := (blk_cell ST.res 2).trans rfl
          have mz2 : W2.cell? ⟨mb, 2, none⟩ = some (.int .i64 0) := (blk_cell ST.m 2).trans rfl
          have rf2 := blk_frozen ST.res 2
          have mf2 := blk_frozen ST.m 2
          have rz3 : W2.cell? ⟨w.heap.size, 3, none⟩ = some (.bool false) := (blk_cell ST.res 3).trans rfl
          have mz3 : W2.cell? ⟨mb, 3, none⟩ = some (.bool false) := (blk_cell ST.m 3).trans rfl
          have rf3 := blk_frozen ST.res 3
          have mf3 := blk_frozen ST.m 3
          by_cases hd0 : d = 0
          · subst hd0
            by_cases hp8 : p = 8
            · subst hp8
              have hgg := HGG.out
              rw [if_neg (by simp)] at hgg
              obtain ⟨rfl, rfl, rfl, rfl, rfl⟩ : r1 = 0 ∧ r2 = 0 ∧ r3 = 0 ∧ r4 = false ∧ r5 = 70 := by
                simp only [Option.some.injEq, Prod.mk.injEq] at hgg
                obtain ⟨e1, e2, e3, e4, e5⟩ := hgg
                exact ⟨e1.symm, e2.symm, e3.symm, e4.symm, e5.symm⟩
              clear hgg
              go_wp2_with (go_at_call 42; refine (piece_Side.calls 9 _ _ _ HD.out).mono ?_; rintro e w' ⟨rfl, ⟨nd, rfl⟩⟩)
              have ST6 := ST.step (pw_below_drewN (Below.refl _ _) nd)
              clear ST
              have ST := ST6
              clear ST6
              refine bodyPost_ret (v := .tuple #[.agg #[.int .i64 0, .int .i64 0, .int .i64 0, .bool false], .int .i64 70]) (by simp [results, Try.results25, go_sem, rz0, rz1, rz2, rz3]) rfl ⟨rfl, ?_⟩
              exact ((((ST.bel.setCell (p := ⟨w.heap.size, 0, none⟩) (Nat.le_refl _) _).setCell (p := ⟨w.heap.size, 1, none⟩) (Nat.le_refl _) _).setCell (p := ⟨w.heap.size, 2, none⟩) (Nat.le_refl _) _).setCell (p := ⟨w.heap.size, 3, none⟩) (Nat.le_refl _) _)
            · have p8b : (p == 8) = false := by simpa using hp8
              cases ok
              · have hgg := HGG.out
                rw [if_neg (by simp)] at hgg
                obtain ⟨rfl, rfl, rfl, rfl, rfl⟩ : r1 = 0 ∧ r2 = 0 ∧ r3 = 0 ∧ r4 = false ∧ r5 = 70 := by
                  simp only [Option.some.injEq, Prod.mk.injEq] at hgg
                  obtain ⟨e1, e2, e3, e4, e5⟩ := hgg
                  exact ⟨e1.symm, e2.symm, e3.symm, e4.symm, e5.symm⟩
                clear hgg
                go_wp2_with (go_at_call 42; refine (piece_Side.calls 9 _ _ _ HD.out).mono ?_; rintro e w' ⟨rfl, ⟨nd, rfl⟩⟩)
                have ST6 := ST.step (pw_below_drewN (Below.refl _ _) nd)
                clear ST
                have ST := ST6
                clear ST6
                refine bodyPost_ret (v := .tuple #[.agg #[.int .i64 0, .int .i64 0, .int .i64 0, .bool false], .int .i64 70]) (by simp [results, Try.results25, go_sem, rz0, rz1, rz2, rz3]) rfl ⟨rfl, ?_⟩
                exact ((((ST.bel.setCell (p := ⟨w.heap.size, 0, none⟩) (Nat.le_refl _) _).setCell (p := ⟨w.heap.size, 1, none⟩) (Nat.le_refl _) _).setCell (p := ⟨w.heap.size, 2, none⟩) (Nat.le_refl _) _).setCell (p := ⟨w.heap.size, 3, none⟩) (Nat.le_refl _) _)
              · have hgg := HGG.out
                rw [if_pos ⟨rfl, hp8, rfl, hlen4⟩] at hgg
                obtain ⟨rfl, rfl, rfl, rfl, rfl⟩ : r1 = 0 ∧ r2 = q ∧ r3 = wrap64 p ∧ r4 = false ∧ r5 = 0 := by
                  simp only [Option.some.injEq, Prod.mk.injEq] at hgg
                  obtain ⟨e1, e2, e3, e4, e5⟩ := hgg
                  exact ⟨e1.symm, e2.symm, e3.symm, e4.symm, e5.symm⟩
                clear hgg
                go_upto_region 20 with (go_at_call 42; refine (piece_Side.calls 9 _ _ _ HD.out).mono ?_; rintro e w' ⟨rfl, ⟨nd, rfl⟩⟩)
                have ST6 := ST.step (pw_below_drewN (Below.refl _ _) nd)
                clear ST
                have ST := ST6
                clear ST6
                generalize W2.drewN nd = W3 at *
                clear rz0 mz0 rf0 mf0 rz1 mz1 rf1 mf1 rz2 mz2 rf2 mf2 rz3 mz3 rf3 mf3
                have rz0 : W3.cell? ⟨w.heap.size, 0, none⟩ = some (.int .i64 0) := (blk_cell ST.res 0).trans rfl
                have mz0 : W3.cell? ⟨mb, 0, none⟩ = some (.int .i64 0) := (blk_cell ST.m 0).trans rfl
                have rf0 := blk_frozen ST.res 0
                have mf0 := blk_frozen ST.m 0
                have rz1 : W3.cell? ⟨w.heap.size, 1, none⟩ = some (.int .i64 0) := (blk_cell ST.res 1).trans rfl
                have mz1 : W3.cell? ⟨mb, 1, none⟩ = some (.int .i64 0) := (blk_cell ST.m 1).trans rfl
                have rf1 := blk_frozen ST.res 1
                have mf1 := blk_frozen ST.m 1
                have rz2 : W3.cell? ⟨w.heap.size, 2, none⟩ = some (.int .i64 0) := (blk_cell ST.res 2).trans rfl
                have mz2 : W3.cell? ⟨mb, 2, none⟩ = some (.int .i64 0) := (blk_cell ST.m 2).trans rfl
                have rf2 := blk_frozen ST.res 2
                have mf2 := blk_frozen ST.m 2
                have rz3 : W3.cell? ⟨w.heap.size, 3, none⟩ = some (.bool false) := (blk_cell ST.res 3).trans rfl
                have mz3 : W3.cell? ⟨mb, 3, none⟩ = some (.bool false) := (blk_cell ST.m 3).trans rfl
                have rf3 := blk_frozen ST.res 3
                have mf3 := blk_frozen ST.m 3
                have hne1 : (w.heap.size = mb) = False := eq_false (by have := ST.lt; omega)
                have hne2 : (mb = w.heap.size) = False := eq_false (by have := ST.lt; omega)
                go_wp2
                refine bodyPost_ret (v := .tuple #[.agg #[.int .i64 0, .int .i64 r2, .int .i64 (wrap64 p), .bool false], .int .i64 0]) (by simp [results, Try.results25, go_sem, rz0, rz1, rz2, rz3, mz0, mz1, mz2, mz3, hne1, hne2]) rfl ⟨rfl, ?_⟩
                exact ((((((((ST.bel.setCell (p := ⟨mb, 0, none⟩) (Nat.le_of_lt ST.lt) _).setCell (p := ⟨mb, 1, none⟩) (Nat.le_of_lt ST.lt) _).setCell (p := ⟨mb, 2, none⟩) (Nat.le_of_lt ST.lt) _).setCell (p := ⟨mb, 3, none⟩) (Nat.le_of_lt ST.lt) _).setCell (p := ⟨w.heap.size, 0, none⟩) (Nat.le_refl _) _).setCell (p := ⟨w.heap.size, 1, none⟩) (Nat.le_refl _) _).setCell (p := ⟨w.heap.size, 2, none⟩) (Nat.le_refl _) _).setCell (p := ⟨w.heap.size, 3, none⟩) (Nat.le_refl _) _)
          · have d0b : (d == 0) = false := by simpa using hd0
            have d0n : (d != 0) = true := by simpa using hd0
            have hgg := HGG.out
            rw [if_neg (by simp [hd0])] at hgg
            obtain ⟨rfl, rfl, rfl, rfl, rfl⟩ : r1 = 0 ∧ r2 = 0 ∧ r3 = 0 ∧ r4 = false ∧ r5 = 70 := by
              simp only [Option.some.injEq, Prod.mk.injEq] at hgg
              obtain ⟨e1, e2, e3, e4, e5⟩ := hgg
              exact ⟨e1.symm, e2.symm, e3.symm, e4.symm, e5.symm⟩
            clear hgg
            go_wp2_with (go_at_call 42; refine (piece_Side.calls 9 _ _ _ HD.out).mono ?_; rintro e w' ⟨rfl, ⟨nd, rfl⟩⟩)
            have ST6 := ST.step (pw_below_drewN (Below.refl _ _) nd)
            clear ST
            have ST := ST6
            clear ST6
            refine bodyPost_ret (v := .tuple #[.agg #[.int .i64 0, .int .i64 0, .int .i64 0, .bool false], .int .i64 70]) (by simp [results, Try.results25, go_sem, rz0, rz1, rz2, rz3]) rfl ⟨rfl, ?_⟩
            exact ((((ST.bel.setCell (p := ⟨w.heap.size, 0, none⟩) (Nat.le_refl _) _).setCell (p := ⟨w.heap.size, 1, none⟩) (Nat.le_refl _) _).setCell (p := ⟨w.heap.size, 2, none⟩) (Nat.le_refl _) _).setCell (p := ⟨w.heap.size, 3, none⟩) (Nat.le_refl _) _)
        · rw [if_neg h42] at hgg
          have h42b : (rd L 1 == 42) = false := by simpa using h42
          obtain ⟨⟨q, ok⟩, hq, hgg⟩ := Option.bind_eq_some_iff.mp hgg
          obtain ⟨⟨u, good⟩, hu2, hgg⟩ := Option.bind_eq_some_iff.mp hgg
          dsimp only at hgg
          have HQ := Aside0.mk hq
          have HU := Aside0.mk hu2
          have HGG := Aside0.mk hgg
          clear hq hu2 hgg
          go_wp2
          go_quiet (first | (go_at_call 47; refine (move_square.calls _ _ _ _ _ HQ.out).mono ?_; rintro e w' ⟨rfl, ⟨nd, rfl⟩⟩; first | exact ⟨rfl, _, World.drewN_drewN _ _ _⟩ | exact ⟨rfl, _, rfl⟩))
          clear rz0 mz0 rf0 mf0 rz1 mz1 rf1 mf1 rz2 mz2 rf2 mf2 rz3 mz3 rf3 mf3
          have ST5 := ST.step (pw_below_drewN (Below.refl _ _) nq)
          clear ST
          have ST := ST5
          clear ST5
          generalize W.drewN nq = W1 at *
          have rz0 : W1.cell? ⟨w.heap.size, 0, none⟩ = some (.int .i64 0) := (blk_cell ST.res 0).trans rfl
          have mz0 : W1.cell? ⟨mb, 0, none⟩ = some (.int .i64 0) := (blk_cell ST.m 0).trans rfl
          have rf0 := blk_frozen ST.res 0
          have mf0 := blk_frozen ST.m 0
          have rz1 : W1.cell? ⟨w.heap.size, 1, none⟩ = some (.int .i64 0) := (blk_cell ST.res 1).trans rfl
          have mz1 : W1.cell? ⟨mb, 1, none⟩ = some (.int .i64 0) := (blk_cell ST.m 1).trans rfl
          have rf1 := blk_frozen ST.res 1
          have mf1 := blk_frozen ST.m 1
          have rz2 : W1.cell? ⟨w.heap.size, 2, none⟩ = some (.int .i64 0) := (blk_cell ST.res 2).trans rfl
          have mz2 : W1.cell? ⟨mb, 2, none⟩ = some (.int .i64 0) := (blk_cell ST.m 2).trans rfl
          have rf2 := blk_frozen ST.res 2
          have mf2 := blk_frozen ST.m 2
          have rz3 : W1.cell? ⟨w.heap.size, 3, none⟩ = some (.bool false) := (blk_cell ST.res 3).trans rfl
          have mz3 : W1.cell? ⟨mb, 3, none⟩ = some (.bool false) := (blk_cell ST.m 3).trans rfl
          have rf3 := blk_frozen ST.res 3
          have mf3 := blk_frozen ST.m 3
          obtain ⟨ad2, ea2, g2⟩ := Kd.at_int ST.cells 2 (by omega) (by omega)
          cases ea2
          replace g2 : W1.cell? ⟨ad0.block, ad0.off + 2, none⟩ = some (.int .i32 (rd L 2)) := by simpa [Addr.add] using g2
          obtain ⟨ad3, ea3, g3⟩ := Kd.at_int ST.cells 3 (by omega) (by omega)
          cases ea3
          replace g3 : W1.cell? ⟨ad0.block, ad0.off + 3, none⟩ = some (.int .i32 (rd L 3)) := by simpa [Addr.add] using g3
          go_wp2
          go_quiet (first | (go_at_call 47; refine (move_square.calls _ _ _ _ _ HU.out).mono ?_; rintro e w' ⟨rfl, ⟨nd, rfl⟩⟩; first | exact ⟨rfl, _, World.drewN_drewN _ _ _⟩ | exact ⟨rfl, _, rfl⟩))
          clear rz0 mz0 rf0 mf0 rz1 mz1 rf1 mf1 rz2 mz2 rf2 mf2 rz3 mz3 rf3 mf3
          have ST5 := ST.step (pw_below_drewN (Below.refl _ _) nq)
          clear ST
          have ST := ST5
          clear ST5
          generalize W1.drewN nq = W2 at *
          have rz0 : W2.cell? ⟨w.heap.size, 0, none⟩ = some (.int .i64 0) := (blk_cell ST.res 0).trans rfl
          have mz0 : W2.cell? ⟨mb, 0, none⟩ = some (.int .i64 0) := (blk_cell ST.m 0).trans rfl
          have rf0 := blk_frozen ST.res 0
          have mf0 := blk_frozen ST.m 0
          have rz1 : W2.cell? ⟨w.heap.size, 1, none⟩ = some (.int .i64 0) := (blk_cell ST.res 1).trans rfl
          have mz1 : W2.cell? ⟨mb, 1, none⟩ = some (.int .i64 0) := (blk_cell ST.m 1).trans rfl
          have rf1 := blk_frozen ST.res 1
          have mf1 := blk_frozen ST.m 1
          have rz2 : W2.cell? ⟨w.heap.size, 2, none⟩ = some (.int .i64 0) := (blk_cell ST.res 2).trans rfl
          have mz2 : W2.cell? ⟨mb, 2, none⟩ = some (.int .i64 0) := (blk_cell ST.m 2).trans rfl
          have rf2 := blk_frozen ST.res 2
          have mf2 := blk_frozen ST.m 2
          have rz3 : W2.cell? ⟨w.heap.size, 3, none⟩ = some (.bool false) := (blk_cell ST.res 3).trans rfl
          have mz3 : W2.cell? ⟨mb, 3, none⟩ = some (.bool false) := (blk_cell ST.m 3).trans rfl
          have rf3 := blk_frozen ST.res 3
          have mf3 := blk_frozen ST.m 3
          cases ok
          · have hgg := HGG.out
            rw [if_neg (by simp)] at hgg
            obtain ⟨rfl, rfl, rfl, rfl, rfl⟩ : r1 = 0 ∧ r2 = 0 ∧ r3 = 0 ∧ r4 = false ∧ r5 = 70 := by
              simp only [Option.some.injEq, Prod.mk.injEq] at hgg
              obtain ⟨e1, e2, e3, e4, e5⟩ := hgg
              exact ⟨e1.symm, e2.symm, e3.symm, e4.symm, e5.symm⟩
            clear hgg
            go_wp2
            refine bodyPost_ret (v := .tuple #[.agg #[.int .i64 0, .int .i64 0, .int .i64 0, .bool false], .int .i64 70]) (by simp [results, Try.results25, go_sem, rz0, rz1, rz2, rz3]) rfl ⟨rfl, ?_⟩
            exact ((((ST.bel.setCell (p := ⟨w.heap.size, 0, none⟩) (Nat.le_refl _) _).setCell (p := ⟨w.heap.size, 1, none⟩) (Nat.le_refl _) _).setCell (p := ⟨w.heap.size, 2, none⟩) (Nat.le_refl _) _).setCell (p := ⟨w.heap.size, 3, none⟩) (Nat.le_refl _) _)
          · cases good
            · have hgg := HGG.out
              rw [if_neg (by simp)] at hgg
              obtain ⟨rfl, rfl, rfl, rfl, rfl⟩ : r1 = 0 ∧ r2 = 0 ∧ r3 = 0 ∧ r4 = false ∧ r5 = 70 := by
                simp only [Option.some.injEq, Prod.mk.injEq] at hgg
                obtain ⟨e1, e2, e3, e4, e5⟩ := hgg
                exact ⟨e1.symm, e2.symm, e3.symm, e4.symm, e5.symm⟩
              clear hgg
              go_wp2
              refine bodyPost_ret (v := .tuple #[.agg #[.int .i64 0, .int .i64 0, .int .i64 0, .bool false], .int .i64 70]) (by simp [results, Try.results25, go_sem, rz0, rz1, rz2, rz3]) rfl ⟨rfl, ?_⟩
              exact ((((ST.bel.setCell (p := ⟨w.heap.size, 0, none⟩) (Nat.le_refl _) _).setCell (p := ⟨w.heap.size, 1, none⟩) (Nat.le_refl _) _).setCell (p := ⟨w.heap.size, 2, none⟩) (Nat.le_refl _) _).setCell (p := ⟨w.heap.size, 3, none⟩) (Nat.le_refl _) _)
            · by_cases hqu : q = u
              · subst hqu
                have hgg := HGG.out
                rw [if_neg (by simp)] at hgg
                obtain ⟨rfl, rfl, rfl, rfl, rfl⟩ : r1 = 0 ∧ r2 = 0 ∧ r3 = 0 ∧ r4 = false ∧ r5 = 70 := by
                  simp only [Option.some.injEq, Prod.mk.injEq] at hgg
                  obtain ⟨e1, e2, e3, e4, e5⟩ := hgg
                  exact ⟨e1.symm, e2.symm, e3.symm, e4.symm, e5.symm⟩
                clear hgg
                go_wp2
                refine bodyPost_ret (v := .tuple #[.agg #[.int .i64 0, .int .i64 0, .int .i64 0, .bool false], .int .i64 70]) (by simp [results, Try.results25, go_sem, rz0, rz1, rz2, rz3]) rfl ⟨rfl, ?_⟩
                exact ((((ST.bel.setCell (p := ⟨w.heap.size, 0, none⟩) (Nat.le_refl _) _).setCell (p := ⟨w.heap.size, 1, none⟩) (Nat.le_refl _) _).setCell (p := ⟨w.heap.size, 2, none⟩) (Nat.le_refl _) _).setCell (p := ⟨w.heap.size, 3, none⟩) (Nat.le_refl _) _)
              · have qub : (q == u) = false := by simpa using hqu
                have hgg := HGG.out
                rw [if_pos ⟨rfl, rfl, hqu, Or.inl hlen4⟩, hlen4] at hgg
                obtain ⟨rfl, rfl, rfl, rfl, rfl⟩ : r1 = q ∧ r2 = u ∧ r3 = 0 ∧ r4 = decide (((4 : Nat) : Int) = 5) ∧ r5 = 0 := by
                  simp only [Option.some.injEq, Prod.mk.injEq] at hgg
                  obtain ⟨e1, e2, e3, e4, e5⟩ := hgg
                  exact ⟨e1.symm, e2.symm, e3.symm, e4.symm, e5.symm⟩
                clear hgg
                have hne1 : (w.heap.size = mb) = False := eq_false (by have := ST.lt; omega)
                have hne2 : (mb = w.heap.size) = False := eq_false (by have := ST.lt; omega)
                go_wp2
                refine bodyPost_ret (v := .tuple #[.agg #[.int .i64 r1, .int .i64 r2, .int .i64 0, .bool false], .int .i64 0]) (by simp [results, Try.results25, go_sem, rz0, rz1, rz2, rz3, mz0, mz1, mz2, mz3, hne1, hne2]) rfl ⟨rfl, ?_⟩
                exact ((((((((ST.bel.setCell (p := ⟨mb, 0, none⟩) (Nat.le_of_lt ST.lt) _).setCell (p := ⟨mb, 1, none⟩) (Nat.le_of_lt ST.lt) _).setCell (p := ⟨mb, 2, none⟩) (Nat.le_of_lt ST.lt) _).setCell (p := ⟨mb, 3, none⟩) (Nat.le_of_lt ST.lt) _).setCell (p := ⟨w.heap.size, 0, none⟩) (Nat.le_refl _) _).setCell (p := ⟨w.heap.size, 1, none⟩) (Nat.le_refl _) _).setCell (p := ⟨w.heap.size, 2, none⟩) (Nat.le_refl _) _).setCell (p := ⟨w.heap.size, 3, none⟩) (Nat.le_refl _) _)
      by_cases hlen5 : L.length = 5
      · rw [if_pos (by omega)] at hgg
        rw [hlen5]
        have rz0 : W.cell? ⟨w.heap.size, 0, none⟩ = some (.int .i64 0) := (blk_cell ST.res 0).trans rfl
        have mz0 : W.cell? ⟨mb, 0, none⟩ = some (.int .i64 0) := (blk_cell ST.m 0).trans rfl
        have rf0 := blk_frozen ST.res 0
        have mf0 := blk_frozen ST.m 0
        have rz1 : W.cell? ⟨w.heap.size, 1, none⟩ = some (.int .i64 0) := (blk_cell ST.res 1).trans rfl
        have mz1 : W.cell? ⟨mb, 1, none⟩ = some (.int .i64 0) := (blk_cell ST.m 1).trans rfl
        have rf1 := blk_frozen ST.res 1
        have mf1 := blk_frozen ST.m 1
        have rz2 : W.cell? ⟨w.heap.size, 2, none⟩ = some (.int .i64 0) := (blk_cell ST.res 2).trans rfl
        have mz2 : W.cell? ⟨mb, 2, none⟩ = some (.int .i64 0) := (blk_cell ST.m 2).trans rfl
        have rf2 := blk_frozen ST.res 2
        have mf2 := blk_frozen ST.m 2
        have rz3 : W.cell? ⟨w.heap.size, 3, none⟩ = some (.bool false) := (blk_cell ST.res 3).trans rfl
        have mz3 : W.cell? ⟨mb, 3, none⟩ = some (.bool false) := (blk_cell ST.m 3).trans rfl
        have rf3 := blk_frozen ST.res 3
        have mf3 := blk_frozen ST.m 3
        obtain ⟨ad0, ea0, g0⟩ := Kd.at_int ST.cells 0 (by omega) (by omega)
        cases ea0
        replace g0 : W.cell? ad0 = some (.int .i32 (rd L 0)) := by simpa [Addr.add] using g0
        obtain ⟨ad1, ea1, g1⟩ := Kd.at_int ST.cells 1 (by omega) (by omega)
        cases ea1
        replace g1 : W.cell? ⟨ad0.block, ad0.off + 1, none⟩ = some (.int .i32 (rd L 1)) := by simpa [Addr.add] using g1
        by_cases h42 : rd L 1 = 42
        · rw [if_pos h42] at hgg
          have h42b : (rd L 1 == 42) = true := by simpa using h42
          obtain ⟨p, hp, hgg⟩ := Option.bind_eq_some_iff.mp hgg
          obtain ⟨⟨q, ok⟩, hq, hgg⟩ := Option.bind_eq_some_iff.mp hgg
          obtain ⟨d, hd, hgg⟩ := Option.bind_eq_some_iff.mp hgg
          dsimp only at hgg
          have HP := Aside0.mk hp
          have HQ := Aside0.mk hq
          have HD := Aside0.mk hd
          have HGG := Aside0.mk hgg
          clear hp hq hd hgg
          go_wp2_with (go_at_call 46; refine (piece_Parse.calls _ _ _ _ HP.out).mono ?_; rintro e w5 ⟨rfl, hb5⟩)
          clear rz0 mz0 rf0 mf0 rz1 mz1 rf1 mf1 rz2 mz2 rf2 mf2 rz3 mz3 rf3 mf3
          have ST5 := ST.step hb5
          clear ST hb5
          have ST := ST5
          clear ST5
          have rz0 : w5.cell? ⟨w.heap.size, 0, none⟩ = some (.int .i64 0) := (blk_cell ST.res 0).trans rfl
          have mz0 : w5.cell? ⟨mb, 0, none⟩ = some (.int .i64 0) := (blk_cell ST.m 0).trans rfl
          have rf0 := blk_frozen ST.res 0
          have mf0 := blk_frozen ST.m 0
          have rz1 : w5.cell? ⟨w.heap.size, 1, none⟩ = some (.int .i64 0) := (blk_cell ST.res 1).trans rfl
          have mz1 : w5.cell? ⟨mb, 1, none⟩ = some (.int .i64 0) := (blk_cell ST.m 1).trans rfl
          have rf1 := blk_frozen ST.res 1
          have mf1 := blk_frozen ST.m 1
          have rz2 : w5.cell? ⟨w.heap.size, 2, none⟩ = some (.int .i64 0) := (blk_cell ST.res 2).trans rfl
          have mz2 : w5.cell? ⟨mb, 2, none⟩ = some (.int .i64 0) := (blk_cell ST.m 2).trans rfl
          have rf2 := blk_frozen ST.res 2
          have mf2 := blk_frozen ST.m 2
          have rz3 : w5.cell? ⟨w.heap.size, 3, none⟩ = some (.bool false) := (blk_cell ST.res 3).trans rfl
          have mz3 : w5.cell? ⟨mb, 3, none⟩ = some (.bool false) := (blk_cell ST.m 3).trans rfl
          have rf3 := blk_frozen ST.res 3
          have mf3 := blk_frozen ST.m 3
          obtain ⟨ad2, ea2, g2⟩ := Kd.at_int ST.cells 2 (by omega) (by omega)
          cases ea2
          replace g2 : w5.cell? ⟨ad0.block, ad0.off + 2, none⟩ = some (.int .i32 (rd L 2)) := by simpa [Addr.add] using g2
          obtain ⟨ad3, ea3, g3⟩ := Kd.at_int ST.cells 3 (by omega) (by omega)
          cases ea3
          replace g3 : w5.cell? ⟨ad0.block, ad0.off + 3, none⟩ = some (.int .i32 (rd L 3)) := by simpa [Addr.add] using g3
          go_quiet (first | (go_at_call 47; refine (move_square.calls _ _ _ _ _ HQ.out).mono ?_; rintro e w' ⟨rfl, ⟨nd, rfl⟩⟩; first | exact ⟨rfl, _, World.drewN_drewN _ _ _⟩ | exact ⟨rfl, _, rfl⟩))
          clear rz0 mz0 rf0 mf0 rz1 mz1 rf1 mf1 rz2 mz2 rf2 mf2 rz3 mz3 rf3 mf3
          have ST5 := ST.step (pw_below_drewN (Below.refl _ _) nq)
          clear ST
          have ST := ST5
          clear ST5
          generalize w5.drewN nq = W2 at *
          have rz0 : W2.cell? ⟨w.heap.size, 0, none⟩ = some (.int .i64 0) := (blk_cell ST.res 0).trans rfl
          have mz0 : W2.cell? ⟨mb, 0, none⟩ = some (.int .i64 0) := (blk_cell ST.m 0).trans rfl
          have rf0 := blk_frozen ST.res 0
          have mf0 := blk_frozen ST.m 0
          have rz1 : W2.cell? ⟨w.heap.size, 1, none⟩ = some (.int .i64 0) := (blk_cell ST.res 1).trans rfl
          have mz1 : W2.cell? ⟨mb, 1, none⟩ = some (.int .i64 0) := (blk_cell ST.m 1).trans rfl
          have rf1 := blk_frozen ST.res 1
          have mf1 := blk_frozen ST.m 1
          have rz2 : W2.cell? ⟨w.heap.size, 2, none⟩ = some (.int .i64 0) := (blk_cell ST.res 2).trans rfl
          have mz2 : W2.cell? ⟨mb, 2, none⟩ = some (.int .i64 0) := (blk_cell ST.m 2).trans rfl
          have rf2 := blk_frozen ST.res 2
          have mf2 := blk_frozen ST.m 2
          have rz3 : W2.cell? ⟨w.heap.size, 3, none⟩ = some (.bool false) := (blk_cell ST.res 3).trans rfl
          have mz3 : W2.cell? ⟨mb, 3, none⟩ = some (.bool false) := (blk_cell ST.m 3).trans rfl
          have rf3 := blk_frozen ST.res 3
          have mf3 := blk_frozen ST.m 3
          by_cases hd0 : d = 0
          · subst hd0
            by_cases hp8 : p = 8
            · subst hp8
              have hgg := HGG.out
              rw [if_neg (by simp)] at hgg
              obtain ⟨rfl, rfl, rfl, rfl, rfl⟩ : r1 = 0 ∧ r2 = 0 ∧ r3 = 0 ∧ r4 = false ∧ r5 = 70 := by
                simp only [Option.some.injEq, Prod.mk.injEq] at hgg
                obtain ⟨e1, e2, e3, e4, e5⟩ := hgg
                exact ⟨e1.symm, e2.symm, e3.symm, e4.symm, e5.symm⟩
              clear hgg
              go_wp2_with (go_at_call 42; refine (piece_Side.calls 9 _ _ _ HD.out).mono ?_; rintro e w' ⟨rfl, ⟨nd, rfl⟩⟩)
              have ST6 := ST.step (pw_below_drewN (Below.refl _ _) nd)
              clear ST
              have ST := ST6
              clear ST6
              refine bodyPost_ret (v := .tuple #[.agg #[.int .i64 0, .int .i64 0, .int .i64 0, .bool false], .int .i64 70]) (by simp [results, Try.results25, go_sem, rz0, rz1, rz2, rz3]) rfl ⟨rfl, ?_⟩
              exact ((((ST.bel.setCell (p := ⟨w.heap.size, 0, none⟩) (Nat.le_refl _) _).setCell (p := ⟨w.heap.size, 1, none⟩) (Nat.le_refl _) _).setCell (p := ⟨w.heap.size, 2, none⟩) (Nat.le_refl _) _).setCell (p := ⟨w.heap.size, 3, none⟩) (Nat.le_refl _) _)
            · have p8b : (p == 8) = false := by simpa using hp8
              cases ok
              · have hgg := HGG.out
                rw [if_neg (by simp)] at hgg
                obtain ⟨rfl, rfl, rfl, rfl, rfl⟩ : r1 = 0 ∧ r2 = 0 ∧ r3 = 0 ∧ r4 = false ∧ r5 = 70 := by
                  simp only [Option.some.injEq, Prod.mk.injEq] at hgg
                  obtain ⟨e1, e2, e3, e4, e5⟩ := hgg
                  exact ⟨e1.symm, e2.symm, e3.symm, e4.symm, e5.symm⟩
                clear hgg
                go_wp2_with (go_at_call 42; refine (piece_Side.calls 9 _ _ _ HD.out).mono ?_; rintro e w' ⟨rfl, ⟨nd, rfl⟩⟩)
                have ST6 := ST.step (pw_below_drewN (Below.refl _ _) nd)
                clear ST
                have ST := ST6
                clear ST6
                refine bodyPost_ret (v := .tuple #[.agg #[.int .i64 0, .int .i64 0, .int .i64 0, .bool false], .int .i64 70]) (by simp [results, Try.results25, go_sem, rz0, rz1, rz2, rz3]) rfl ⟨rfl, ?_⟩
                exact ((((ST.bel.setCell (p := ⟨w.heap.size, 0, none⟩) (Nat.le_refl _) _).setCell (p := ⟨w.heap.size, 1, none⟩) (Nat.le_refl _) _).setCell (p := ⟨w.heap.size, 2, none⟩) (Nat.le_refl _) _).setCell (p := ⟨w.heap.size, 3, none⟩) (Nat.le_refl _) _)
              · have hgg := HGG.out
                rw [if_neg (by simp [hlen5])] at hgg
                obtain ⟨rfl, rfl, rfl, rfl, rfl⟩ : r1 = 0 ∧ r2 = 0 ∧ r3 = 0 ∧ r4 = false ∧ r5 = 70 := by
                  simp only [Option.some.injEq, Prod.mk.injEq] at hgg
                  obtain ⟨e1, e2, e3, e4, e5⟩ := hgg
                  exact ⟨e1.symm, e2.symm, e3.symm, e4.symm, e5.symm⟩
                clear hgg
                go_wp2_with (go_at_call 42; refine (piece_Side.calls 9 _ _ _ HD.out).mono ?_; rintro e w' ⟨rfl, ⟨nd, rfl⟩⟩)
                have ST6 := ST.step (pw_below_drewN (Below.refl _ _) nd)
                clear ST
                have ST := ST6
                clear ST6
                refine bodyPost_ret (v := .tuple #[.agg #[.int .i64 0, .int .i64 0, .int .i64 0, .bool false], .int .i64 70]) (by simp [results, Try.results25, go_sem, rz0, rz1, rz2, rz3]) rfl ⟨rfl, ?_⟩
                exact ((((ST.bel.setCell (p := ⟨w.heap.size, 0, none⟩) (Nat.le_refl _) _).setCell (p := ⟨w.heap.size, 1, none⟩) (Nat.le_refl _) _).setCell (p := ⟨w.heap.size, 2, none⟩) (Nat.le_refl _) _).setCell (p := ⟨w.heap.size, 3, none⟩) (Nat.le_refl _) _)
          · have d0b : (d == 0) = false := by simpa using hd0
            have d0n : (d != 0) = true := by simpa using hd0
            have hgg := HGG.out
            rw [if_neg (by simp [hd0])] at hgg
            obtain ⟨rfl, rfl, rfl, rfl, rfl⟩ : r1 = 0 ∧ r2 = 0 ∧ r3 = 0 ∧ r4 = false ∧ r5 = 70 := by
              simp only [Option.some.injEq, Prod.mk.injEq] at hgg
              obtain ⟨e1, e2, e3, e4, e5⟩ := hgg
              exact ⟨e1.symm, e2.symm, e3.symm, e4.symm, e5.symm⟩
            clear hgg
            go_wp2_with (go_at_call 42; refine (piece_Side.calls 9 _ _ _ HD.out).mono ?_; rintro e w' ⟨rfl, ⟨nd, rfl⟩⟩)
            have ST6 := ST.step (pw_below_drewN (Below.refl _ _) nd)
            clear ST
            have ST := ST6
            clear ST6
            refine bodyPost_ret (v := .tuple #[.agg #[.int .i64 0, .int .i64 0, .int .i64 0, .bool false], .int .i64 70]) (by simp [results, Try.results25, go_sem, rz0, rz1, rz2, rz3]) rfl ⟨rfl, ?_⟩
            exact ((((ST.bel.setCell (p := ⟨w.heap.size, 0, none⟩) (Nat.le_refl _) _).setCell (p := ⟨w.heap.size, 1, none⟩) (Nat.le_refl _) _).setCell (p := ⟨w.heap.size, 2, none⟩) (Nat.le_refl _) _).setCell (p := ⟨w.heap.size, 3, none⟩) (Nat.le_refl _) _)
        · rw [if_neg h42] at hgg
          have h42b : (rd L 1 == 42) = false := by simpa using h42
          obtain ⟨⟨q, ok⟩, hq, hgg⟩ := Option.bind_eq_some_iff.mp hgg
          obtain ⟨⟨u, good⟩, hu2, hgg⟩ := Option.bind_eq_some_iff.mp hgg
          dsimp only at hgg
          have HQ := Aside0.mk hq
          have HU := Aside0.mk hu2
          have HGG := Aside0.mk hgg
          clear hq hu2 hgg
          go_wp2
          go_quiet (first | (go_at_call 47; refine (move_square.calls _ _ _ _ _ HQ.out).mono ?_; rintro e w' ⟨rfl, ⟨nd, rfl⟩⟩; first | exact ⟨rfl, _, World.drewN_drewN _ _ _⟩ | exact ⟨rfl, _, rfl⟩))
          clear rz0 mz0 rf0 mf0 rz1 mz1 rf1 mf1 rz2 mz2 rf2 mf2 rz3 mz3 rf3 mf3
          have ST5 := ST.step (pw_below_drewN (Below.refl _ _) nq)
          clear ST
          have ST := ST5
          clear ST5
          generalize W.drewN nq = W1 at *
          have rz0 : W1.cell? ⟨w.heap.size, 0, none⟩ = some (.int .i64 0) := (blk_cell ST.res 0).trans rfl
          have mz0 : W1.cell? ⟨mb, 0, none⟩ = some (.int .i64 0) := (blk_cell ST.m 0).trans rfl
          have rf0 := blk_frozen ST.res 0
          have mf0 := blk_frozen ST.m 0
          have rz1 : W1.cell? ⟨w.heap.size, 1, none⟩ = some (.int .i64 0) := (blk_cell ST.res 1).trans rfl
          have mz1 : W1.cell? ⟨mb, 1, none⟩ = some (.int .i64 0) := (blk_cell ST.m 1).trans rfl
          have rf1 := blk_frozen ST.res 1
          have mf1 := blk_frozen ST.m 1
          have rz2 : W1.cell? ⟨w.heap.size, 2, none⟩ = some (.int .i64 0) := (blk_cell ST.res 2).trans rfl
          have mz2 : W1.cell? ⟨mb, 2, none⟩ = some (.int .i64 0) := (blk_cell ST.m 2).trans rfl
          have rf2 := blk_frozen ST.res 2
          have mf2 := blk_frozen ST.m 2
          have rz3 : W1.cell? ⟨w.heap.size, 3, none⟩ = some (.bool false) := (blk_cell ST.res 3).trans rfl
          have mz3 : W1.cell? ⟨mb, 3, none⟩ = some (.bool false) := (blk_cell ST.m 3).trans rfl
          have rf3 := blk_frozen ST.res 3
          have mf3 := blk_frozen ST.m 3
          obtain ⟨ad2, ea2, g2⟩ := Kd.at_int ST.cells 2 (by omega) (by omega)
          cases ea2
          replace g2 : W1.cell? ⟨ad0.block, ad0.off + 2, none⟩ = some (.int .i32 (rd L 2)) := by simpa [Addr.add] using g2
          obtain ⟨ad3, ea3, g3⟩ := Kd.at_int ST.cells 3 (by omega) (by omega)
          cases ea3
          replace g3 : W1.cell? ⟨ad0.block, ad0.off + 3, none⟩ = some (.int .i32 (rd L 3)) := by simpa [Addr.add] using g3
          go_wp2
          go_quiet (first | (go_at_call 47; refine (move_square.calls _ _ _ _ _ HU.out).mono ?_; rintro e w' ⟨rfl, ⟨nd, rfl⟩⟩; first | exact ⟨rfl, _, World.drewN_drewN _ _ _⟩ | exact ⟨rfl, _, rfl⟩))
          clear rz0 mz0 rf0 mf0 rz1 mz1 rf1 mf1 rz2 mz2 rf2 mf2 rz3 mz3 rf3 mf3
          have ST5 := ST.step (pw_below_drewN (Below.refl _ _) nq)
          clear ST
          have ST := ST5
          clear ST5
          generalize W1.drewN nq = W2 at *
          have rz0 : W2.cell? ⟨w.heap.size, 0, none⟩ = some (.int .i64 0) := (blk_cell ST.res 0).trans rfl
          have mz0 : W2.cell? ⟨mb, 0, none⟩ = some (.int .i64 0) := (blk_cell ST.m 0).trans rfl
          have rf0 := blk_frozen ST.res 0
          have mf0 := blk_frozen ST.m 0
          have rz1 : W2.cell? ⟨w.heap.size, 1, none⟩ = some (.int .i64 0) := (blk_cell ST.res 1).trans rfl
          have mz1 : W2.cell? ⟨mb, 1, none⟩ = some (.int .i64 0) := (blk_cell ST.m 1).trans rfl
          have rf1 := blk_frozen ST.res 1
          have mf1 := blk_frozen ST.m 1
          have rz2 : W2.cell? ⟨w.heap.size, 2, none⟩ = some (.int .i64 0) := (blk_cell ST.res 2).trans rfl
          have mz2 : W2.cell? ⟨mb, 2, none⟩ = some (.int .i64 0) := (blk_cell ST.m 2).trans rfl
          have rf2 := blk_frozen ST.res 2
          have mf2 := blk_frozen ST.m 2
          have rz3 : W2.cell? ⟨w.heap.size, 3, none⟩ = some (.bool false) := (blk_cell ST.res 3).trans rfl
          have mz3 : W2.cell? ⟨mb, 3, none⟩ = some (.bool false) := (blk_cell ST.m 3).trans rfl
          have rf3 := blk_frozen ST.res 3
          have mf3 := blk_frozen ST.m 3
          obtain ⟨ad4, ea4, g4⟩ := Kd.at_int ST.cells 4 (by omega) (by omega)
          cases ea4
          replace g4 : W2.cell? ⟨ad0.block, ad0.off + 4, none⟩ = some (.int .i32 (rd L 4)) := by simpa [Addr.add] using g4
          cases ok
          · have hgg := HGG.out
            rw [if_neg (by simp)] at hgg
            obtain ⟨rfl, rfl, rfl, rfl, rfl⟩ : r1 = 0 ∧ r2 = 0 ∧ r3 = 0 ∧ r4 = false ∧ r5 = 70 := by
              simp only [Option.some.injEq, Prod.mk.injEq] at hgg
              obtain ⟨e1, e2, e3, e4, e5⟩ := hgg
              exact ⟨e1.symm, e2.symm, e3.symm, e4.symm, e5.symm⟩
            clear hgg
            go_wp2
            refine bodyPost_ret (v := .tuple #[.agg #[.int .i64 0, .int .i64 0, .int .i64 0, .bool false], .int .i64 70]) (by simp [results, Try.results25, go_sem, rz0, rz1, rz2, rz3]) rfl ⟨rfl, ?_⟩
            exact ((((ST.bel.setCell (p := ⟨w.heap.size, 0, none⟩) (Nat.le_refl _) _).setCell (p := ⟨w.heap.size, 1, none⟩) (Nat.le_refl _) _).setCell (p := ⟨w.heap.size, 2, none⟩) (Nat.le_refl _) _).setCell (p := ⟨w.heap.size, 3, none⟩) (Nat.le_refl _) _)
          · cases good
            · have hgg := HGG.out
              rw [if_neg (by simp)] at hgg
              obtain ⟨rfl, rfl, rfl, rfl, rfl⟩ : r1 = 0 ∧ r2 = 0 ∧ r3 = 0 ∧ r4 = false ∧ r5 = 70 := by
                simp only [Option.some.injEq, Prod.mk.injEq] at hgg
                obtain ⟨e1, e2, e3, e4, e5⟩ := hgg
                exact ⟨e1.symm, e2.symm, e3.symm, e4.symm, e5.symm⟩
              clear hgg
              go_wp2
              refine bodyPost_ret (v := .tuple #[.agg #[.int .i64 0, .int .i64 0, .int .i64 0, .bool false], .int .i64 70]) (by simp [results, Try.results25, go_sem, rz0, rz1, rz2, rz3]) rfl ⟨rfl, ?_⟩
              exact ((((ST.bel.setCell (p := ⟨w.heap.size, 0, none⟩) (Nat.le_refl _) _).setCell (p := ⟨w.heap.size, 1, none⟩) (Nat.le_refl _) _).setCell (p := ⟨w.heap.size, 2, none⟩) (Nat.le_refl _) _).setCell (p := ⟨w.heap.size, 3, none⟩) (Nat.le_refl _) _)
            · by_cases hqu : q = u
              · subst hqu
                have hgg := HGG.out
                rw [if_neg (by simp)] at hgg
                obtain ⟨rfl, rfl, rfl, rfl, rfl⟩ : r1 = 0 ∧ r2 = 0 ∧ r3 = 0 ∧ r4 = false ∧ r5 = 70 := by
                  simp only [Option.some.injEq, Prod.mk.injEq] at hgg
                  obtain ⟨e1, e2, e3, e4, e5⟩ := hgg
                  exact ⟨e1.symm, e2.symm, e3.symm, e4.symm, e5.symm⟩
                clear hgg
                go_wp2
                refine bodyPost_ret (v := .tuple #[.agg #[.int .i64 0, .int .i64 0, .int .i64 0, .bool false], .int .i64 70]) (by simp [results, Try.results25, go_sem, rz0, rz1, rz2, rz3]) rfl ⟨rfl, ?_⟩
                exact ((((ST.bel.setCell (p := ⟨w.heap.size, 0, none⟩) (Nat.le_refl _) _).setCell (p := ⟨w.heap.size, 1, none⟩) (Nat.le_refl _) _).setCell (p := ⟨w.heap.size, 2, none⟩) (Nat.le_refl _) _).setCell (p := ⟨w.heap.size, 3, none⟩) (Nat.le_refl _) _)
              · have qub : (q == u) = false := by simpa using hqu
                by_cases h43 : rd L 4 = 43
                · have h43n : (rd L 4 != 43) = false := by simpa using h43
                  have hgg := HGG.out
                  rw [if_pos ⟨rfl, rfl, hqu, Or.inr h43⟩, hlen5] at hgg
                  obtain ⟨rfl, rfl, rfl, rfl, rfl⟩ : r1 = q ∧ r2 = u ∧ r3 = 0 ∧ r4 = decide (((5 : Nat) : Int) = 5) ∧ r5 = 0 := by
                    simp only [Option.some.injEq, Prod.mk.injEq] at hgg
                    obtain ⟨e1, e2, e3, e4, e5⟩ := hgg
                    exact ⟨e1.symm, e2.symm, e3.symm, e4.symm, e5.symm⟩
                  clear hgg
                  have hne1 : (w.heap.size = mb) = False := eq_false (by have := ST.lt; omega)
                  have hne2 : (mb = w.heap.size) = False := eq_false (by have := ST.lt; omega)
                  go_wp2
                  refine bodyPost_ret (v := .tuple #[.agg #[.int .i64 r1, .int .i64 r2, .int .i64 0, .bool true], .int .i64 0]) (by simp [results, Try.results25, go_sem, rz0, rz1, rz2, rz3, mz0, mz1, mz2, mz3, hne1, hne2]) rfl ⟨rfl, ?_⟩
                  exact ((((((((ST.bel.setCell (p := ⟨mb, 0, none⟩) (Nat.le_of_lt ST.lt) _).setCell (p := ⟨mb, 1, none⟩) (Nat.le_of_lt ST.lt) _).setCell (p := ⟨mb, 2, none⟩) (Nat.le_of_lt ST.lt) _).setCell (p := ⟨mb, 3, none⟩) (Nat.le_of_lt ST.lt) _).setCell (p := ⟨w.heap.size, 0, none⟩) (Nat.le_refl _) _).setCell (p := ⟨w.heap.size, 1, none⟩) (Nat.le_refl _) _).setCell (p := ⟨w.heap.size, 2, none⟩) (Nat.le_refl _) _).setCell (p := ⟨w.heap.size, 3, none⟩) (Nat.le_refl _) _)
                · have h43n : (rd L 4 != 43) = true := by simpa using h43
                  have hgg := HGG.out
                  rw [if_neg (by simp [hlen5, h43])] at hgg
                  obtain ⟨rfl, rfl, rfl, rfl, rfl⟩ : r1 = 0 ∧ r2 = 0 ∧ r3 = 0 ∧ r4 = false ∧ r5 = 70 := by
                    simp only [Option.some.injEq, Prod.mk.injEq] at hgg
                    obtain ⟨e1, e2, e3, e4, e5⟩ := hgg
                    exact ⟨e1.symm, e2.symm, e3.symm, e4.symm, e5.symm⟩
                  clear hgg
                  go_wp2
                  refine bodyPost_ret (v := .tuple #[.agg #[.int .i64 0, .int .i64 0, .int .i64 0, .bool false], .int .i64 70]) (by simp [results, Try.results25, go_sem, rz0, rz1, rz2, rz3]) rfl ⟨rfl, ?_⟩
                  exact ((((ST.bel.setCell (p := ⟨w.heap.size, 0, none⟩) (Nat.le_refl _) _).setCell (p := ⟨w.heap.size, 1, none⟩) (Nat.le_refl _) _).setCell (p := ⟨w.heap.size, 2, none⟩) (Nat.le_refl _) _).setCell (p := ⟨w.heap.size, 3, none⟩) (Nat.le_refl _) _)
      rw [if_neg (by omega)] at hgg
      obtain ⟨rfl, rfl, rfl, rfl, rfl⟩ : r1 = 0 ∧ r2 = 0 ∧ r3 = 0 ∧ r4 = false ∧ r5 = 70 := by
        simp only [Option.some.injEq, Prod.mk.injEq] at hgg
        obtain ⟨e1, e2, e3, e4, e5⟩ := hgg
        exact ⟨e1.symm, e2.symm, e3.symm, e4.symm, e5.symm⟩
      clear hgg
      have b1 : ((L.length : Int) != 4) = true := by simp; omega
      have b2 : ((L.length : Int) != 5) = true := by simp; omega
      have rz0 : W.cell? ⟨w.heap.size, 0, none⟩ = some (.int .i64 0) := (blk_cell ST.res 0).trans rfl
      have mz0 : W.cell? ⟨mb, 0, none⟩ = some (.int .i64 0) := (blk_cell ST.m 0).trans rfl
      have rf0 := blk_frozen ST.res 0
      have mf0 := blk_frozen ST.m 0
      have rz1 : W.cell? ⟨w.heap.size, 1, none⟩ = some (.int .i64 0) := (blk_cell ST.res 1).trans rfl
      have mz1 : W.cell? ⟨mb, 1, none⟩ = some (.int .i64 0) := (blk_cell ST.m 1).trans rfl
      have rf1 := blk_frozen ST.res 1
      have mf1 := blk_frozen ST.m 1
      have rz2 : W.cell? ⟨w.heap.size, 2, none⟩ = some (.int .i64 0) := (blk_cell ST.res 2).trans rfl
      have mz2 : W.cell? ⟨mb, 2, none⟩ = some (.int .i64 0) := (blk_cell ST.m 2).trans rfl
      have rf2 := blk_frozen ST.res 2
      have mf2 := blk_frozen ST.m 2
      have rz3 : W.cell? ⟨w.heap.size, 3, none⟩ = some (.bool false) := (blk_cell ST.res 3).trans rfl
      have mz3 : W.cell? ⟨mb, 3, none⟩ = some (.bool false) := (blk_cell ST.m 3).trans rfl
      have rf3 := blk_frozen ST.res 3
      have mf3 := blk_frozen ST.m 3
      go_wp2
      refine bodyPost_ret (v := .tuple #[.agg #[.int .i64 0, .int .i64 0, .int .i64 0, .bool false], .int .i64 70]) (by simp [results, Try.results25, go_sem, rz0, rz1, rz2, rz3]) rfl ⟨rfl, ?_⟩
      exact ((((ST.bel.setCell (p := ⟨w.heap.size, 0, none⟩) (Nat.le_refl _) _).setCell (p := ⟨w.heap.size, 1, none⟩) (Nat.le_refl _) _).setCell (p := ⟨w.heap.size, 2, none⟩) (Nat.le_refl _) _).setCell (p := ⟨w.heap.size, 3, none⟩) (Nat.le_refl _) _)

end Go.Proofs.Ytmoeodcmfjnihab.Pa
