-- Printed by a program of this session: the kit's printer, with contracts of this session's own among its functions.
import Derived.Test.YtmoeodcmfjnihabPax0
namespace Go.Proofs.Ytmoeodcmfjnihab.Pa
open Go.RowKit Go.Proofs.YtmoeodcmfjnihabW.PrintWords Go.Proofs.YtmoeodcmfjnihabW.PrintLast Go.Proofs.YtmoeodcmfjnihabW.PrintMore
attribute [local go_sem] max2_int min2_int max_two min_two max_three min_three max_four min_four   -- for this text's walks alone
set_option linter.unusedVariables false
set_option linter.unusedSimpArgs false

/-! ### move_Compare: function 29 -/
def move_Compare.cmp : List Int → List Int → Int
  | x :: xs, y :: ys => if x < y then -1 else if x > y then 1 else move_Compare.cmp xs ys
  | _, _ => 0
def move_Compare.one (p : Bool) : Int := if p = true then 1 else 0
def move_Compare.row (f t d : Int) (p : Bool) : List Int := [d, f, t, move_Compare.one p]
def move_Compare.f (a0_0 : Int) (a0_1 : Int) (a0_2 : Int) (a0_3 : Bool) (a1_0 : Int) (a1_1 : Int) (a1_2 : Int) (a1_3 : Bool) : Option Int := some (move_Compare.cmp (move_Compare.row a0_0 a0_1 a0_2 a0_3) (move_Compare.row a1_0 a1_1 a1_2 a1_3))
theorem move_Compare.order_calls (f t d : Int) (p : Bool) (w : World) :
    Calls Try.prog 50 #[.agg #[.int .i64 f, .int .i64 t, .int .i64 d, .bool p]] w fun e w' => e = .returned (.agg #[.int .i64 d, .int .i64 f, .int .i64 t, .int .i64 (move_Compare.one p)]) ∧ Below w.heap.size w w' := by
  have hu := Try.underlying38
  cases p
  · go_enter Try.func50, Try.ntmps50
    go_wp2
    refine bodyPost_ret (v := .agg #[.int .i64 d, .int .i64 f, .int .i64 t, .int .i64 0]) (by simp [results, Try.results50, go_sem]) rfl ⟨rfl, ?_⟩
    exact ((((Below.refl _ w).alloc (Nat.le_refl _) _).alloc (by simp) _).alloc (by simp; omega) _)
  · go_enter Try.func50, Try.ntmps50
    go_wp2
    refine bodyPost_ret (v := .agg #[.int .i64 d, .int .i64 f, .int .i64 t, .int .i64 1]) (by simp [results, Try.results50, go_sem]) rfl ⟨rfl, ?_⟩
    exact ((((Below.refl _ w).alloc (Nat.le_refl _) _).alloc (by simp) _).alloc (by simp; omega) _)
/-- Two rows of four numbers lie in memory. -/
def move_Compare.Cells (W : World) (b : Nat) (l : List Int) : Prop := ∀ i : Nat, i < 4 → W.cell? ⟨b, i, none⟩ = some (.int .i64 (l.getD i 0))
def move_Compare.Mid (w W : World) (b6 b7 : Nat) (l m : List Int) : Prop := move_Compare.Cells W b6 l ∧ move_Compare.Cells W b7 m ∧ Below w.heap.size w W
abbrev move_Compare.Held (w : World) (a0_0 : Int) (a0_1 : Int) (a0_2 : Int) (a0_3 : Bool) (a1_0 : Int) (a1_1 : Int) (a1_2 : Int) (a1_3 : Bool) (w' : World) : Prop := w'.cell? ⟨w.heap.size, 0, none⟩ = some (.int .i64 a0_0) ∧ w'.cell? ⟨w.heap.size, 1, none⟩ = some (.int .i64 a0_1) ∧ w'.cell? ⟨w.heap.size, 2, none⟩ = some (.int .i64 a0_2) ∧ w'.cell? ⟨w.heap.size, 3, none⟩ = some (.bool a0_3) ∧ w'.cell? ⟨w.heap.size + 1, 0, none⟩ = some (.int .i64 a1_0) ∧ w'.cell? ⟨w.heap.size + 1, 1, none⟩ = some (.int .i64 a1_1) ∧ w'.cell? ⟨w.heap.size + 1, 2, none⟩ = some (.int .i64 a1_2) ∧ w'.cell? ⟨w.heap.size + 1, 3, none⟩ = some (.bool a1_3) ∧ w.heap.size + 1 < w'.heap.size ∧ Below w.heap.size w w'
theorem move_Compare.Held.step {w a0_0 a0_1 a0_2 a0_3 a1_0 a1_1 a1_2 a1_3} {W W' : World} (h : move_Compare.Held w a0_0 a0_1 a0_2 a0_3 a1_0 a1_1 a1_2 a1_3 W) (k : Below (w.heap.size + 2) W W') : move_Compare.Held w a0_0 a0_1 a0_2 a0_3 a1_0 a1_1 a1_2 a1_3 W' := by
  obtain ⟨c0, c1, c2, c3, d0, d1, d2, d3, z, b⟩ := h
  have z0 : w.heap.size < w.heap.size + 2 := by omega
  have z1 : w.heap.size + 1 < w.heap.size + 2 := by omega
  exact ⟨(k.cell (p := ⟨w.heap.size, 0, none⟩) z0).trans c0, (k.cell (p := ⟨w.heap.size, 1, none⟩) z0).trans c1, (k.cell (p := ⟨w.heap.size, 2, none⟩) z0).trans c2, (k.cell (p := ⟨w.heap.size, 3, none⟩) z0).trans c3, (k.cell (p := ⟨w.heap.size + 1, 0, none⟩) z1).trans d0, (k.cell (p := ⟨w.heap.size + 1, 1, none⟩) z1).trans d1, (k.cell (p := ⟨w.heap.size + 1, 2, none⟩) z1).trans d2, (k.cell (p := ⟨w.heap.size + 1, 3, none⟩) z1).trans d3, Nat.lt_of_lt_of_le z k.size, b.trans (k.mono (by omega))⟩
theorem move_Compare.Held.below {w a0_0 a0_1 a0_2 a0_3 a1_0 a1_1 a1_2 a1_3} {W W' : World} (h : move_Compare.Held w a0_0 a0_1 a0_2 a0_3 a1_0 a1_1 a1_2 a1_3 W) (k : Below W.heap.size W W') : move_Compare.Held w a0_0 a0_1 a0_2 a0_3 a1_0 a1_1 a1_2 a1_3 W' := h.step (k.mono (by have := h.2.2.2.2.2.2.2.2.1; omega))
theorem move_Compare.Held.alloc {w a0_0 a0_1 a0_2 a0_3 a1_0 a1_1 a1_2 a1_3} {W : World} (h : move_Compare.Held w a0_0 a0_1 a0_2 a0_3 a1_0 a1_1 a1_2 a1_3 W) (o : Obj) : move_Compare.Held w a0_0 a0_1 a0_2 a0_3 a1_0 a1_1 a1_2 a1_3 (W.alloc o) := h.below ((Below.refl _ W).alloc (Nat.le_refl _) o)
theorem move_Compare.Held.set {w a0_0 a0_1 a0_2 a0_3 a1_0 a1_1 a1_2 a1_3} {W : World} (h : move_Compare.Held w a0_0 a0_1 a0_2 a0_3 a1_0 a1_1 a1_2 a1_3 W) (p : Addr) (v : Value) (hp : w.heap.size + 1 < p.block) : move_Compare.Held w a0_0 a0_1 a0_2 a0_3 a1_0 a1_1 a1_2 a1_3 (W.setCell p v) := h.step ((Below.refl _ W).setCell hp v)
theorem move_Compare.Held.drew {w a0_0 a0_1 a0_2 a0_3 a1_0 a1_1 a1_2 a1_3} {W : World} (h : move_Compare.Held w a0_0 a0_1 a0_2 a0_3 a1_0 a1_1 a1_2 a1_3 W) : move_Compare.Held w a0_0 a0_1 a0_2 a0_3 a1_0 a1_1 a1_2 a1_3 W.drew := h.step (Below.refl _ W).drew
theorem move_Compare.lt_alloc {n : Nat} {W : World} (o : Obj) (h : n < W.heap.size) : n < (W.alloc o).heap.size := Nat.lt_of_lt_of_le h ((Below.refl _ W).alloc (Nat.le_refl _) o).size
abbrev move_Compare.Zero (w W : World) (g : Nat) : Prop := W.cell? ⟨g, 0, none⟩ = some (.int .i64 0) ∧ W.cell? ⟨g, 1, none⟩ = some (.int .i64 0) ∧ W.cell? ⟨g, 2, none⟩ = some (.int .i64 0) ∧ W.cell? ⟨g, 3, none⟩ = some (.int .i64 0) ∧ W.frozen? ⟨g, 0, none⟩ = false ∧ W.frozen? ⟨g, 1, none⟩ = false ∧ W.frozen? ⟨g, 2, none⟩ = false ∧ W.frozen? ⟨g, 3, none⟩ = false ∧ g < W.heap.size ∧ w.heap.size + 1 < g
theorem move_Compare.Zero.new {w W : World} (h : w.heap.size + 1 < W.heap.size) : move_Compare.Zero w (W.alloc (Obj.cells #[.int .i64 0, .int .i64 0, .int .i64 0, .int .i64 0] 68)) W.heap.size := by
  refine ⟨?_, ?_, ?_, ?_, ?_, ?_, ?_, ?_, ?_, h⟩ <;> simp [go_sem]
theorem move_Compare.Zero.below {w W W' : World} {g : Nat} (z : move_Compare.Zero w W g) (k : Below W.heap.size W W') : move_Compare.Zero w W' g := by
  obtain ⟨z0, z1, z2, z3, f0, f1, f2, f3, l, m⟩ := z
  exact ⟨(k.cell (p := ⟨g, 0, none⟩) l).trans z0, (k.cell (p := ⟨g, 1, none⟩) l).trans z1, (k.cell (p := ⟨g, 2, none⟩) l).trans z2, (k.cell (p := ⟨g, 3, none⟩) l).trans z3, (k.frozen (p := ⟨g, 0, none⟩) l).trans f0, (k.frozen (p := ⟨g, 1, none⟩) l).trans f1, (k.frozen (p := ⟨g, 2, none⟩) l).trans f2, (k.frozen (p := ⟨g, 3, none⟩) l).trans f3, Nat.lt_of_lt_of_le l k.size, m⟩
theorem move_Compare.Zero.old {w W : World} {g : Nat} (z : move_Compare.Zero w W g) (o : Obj) : move_Compare.Zero w (W.alloc o) g := z.below ((Below.refl _ W).alloc (Nat.le_refl _) o)
structure move_Compare.St (w : World) (H : World → Prop) (W : World) (o6 o7 : Option Nat) : Prop where
  held : H W
  lt : w.heap.size + 1 < W.heap.size
  z6 : ∀ g, o6 = some g → move_Compare.Zero w W g
  z7 : ∀ g, o7 = some g → move_Compare.Zero w W g
  ne : ∀ g h, o6 = some g → o7 = some h → g ≠ h
theorem move_Compare.St.call {w : World} {H : World → Prop} {W W' : World} {o6 o7 : Option Nat} (hH : ∀ W W', H W → Below (w.heap.size + 2) W W' → H W') (s : move_Compare.St w H W o6 o7) (b : Below W.heap.size W W') : move_Compare.St w H W' o6 o7 :=
  ⟨hH _ _ s.held (b.mono s.lt), Nat.lt_of_lt_of_le s.lt b.size, fun g e => (s.z6 g e).below b, fun g e => (s.z7 g e).below b, s.ne⟩
theorem move_Compare.step_alloc6 {ops : Array Oper} {o : Oper} {a : Act} {K : Act → World → Prop} {Q : Exit → Act → World → Prop} {E : Prop} {w : World} {H : World → Prop} {W : World} {o7 : Option Nat} (hgd : o.guard = none) (ho : o.op = .alloc 68) (hd : o.dst = some 6) (hH : ∀ W W', H W → Below (w.heap.size + 2) W W' → H W') (s : move_Compare.St w H W none o7) (h : ∀ g W', move_Compare.St w H W' (some g) o7 → K (a.put (some 6) (.pointer (some ⟨g, 0, none⟩))) W') : if Region.wanted o (yielded ops a.tmps) = true then Oper.wp Try.prog o a W K Q else E := by
  have hw : Region.wanted o (yielded ops a.tmps) = true := by simp [Region.wanted, hgd]
  rw [if_pos hw]
  obtain ⟨dst, op, type, pos, after, guard⟩ := o
  dsimp only at ho hd hgd
  subst ho hd hgd
  go_simp
  refine h _ _ ⟨hH _ _ s.held ((Below.refl _ W).alloc s.lt _), move_Compare.lt_alloc _ s.lt, fun g e => ?_, fun g e => (s.z7 g e).old _, fun g k e1 e2 => ?_⟩
  · obtain rfl := Option.some.inj e
    exact move_Compare.Zero.new s.lt
  · obtain rfl := Option.some.inj e1
    have := (s.z7 k e2).2.2.2.2.2.2.2.2.1
    omega
theorem move_Compare.step_alloc7 {ops : Array Oper} {o : Oper} {a : Act} {K : Act → World → Prop} {Q : Exit → Act → World → Prop} {E : Prop} {w : World} {H : World → Prop} {W : World} {o6 : Option Nat} (hgd : o.guard = none) (ho : o.op = .alloc 68) (hd : o.dst = some 7) (hH : ∀ W W', H W → Below (w.heap.size + 2) W W' → H W') (s : move_Compare.St w H W o6 none) (h : ∀ g W', move_Compare.St w H W' o6 (some g) → K (a.put (some 7) (.pointer (some ⟨g, 0, none⟩))) W') : if Region.wanted o (yielded ops a.tmps) = true then Oper.wp Try.prog o a W K Q else E := by
  have hw : Region.wanted o (yielded ops a.tmps) = true := by simp [Region.wanted, hgd]
  rw [if_pos hw]
  obtain ⟨dst, op, type, pos, after, guard⟩ := o
  dsimp only at ho hd hgd
  subst ho hd hgd
  go_simp
  refine h _ _ ⟨hH _ _ s.held ((Below.refl _ W).alloc s.lt _), move_Compare.lt_alloc _ s.lt, fun g e => (s.z6 g e).old _, fun g e => ?_, fun g k e1 e2 => ?_⟩
  · obtain rfl := Option.some.inj e
    exact move_Compare.Zero.new s.lt
  · obtain rfl := Option.some.inj e2
    have := (s.z6 g e1).2.2.2.2.2.2.2.2.1
    omega
theorem move_Compare.wp_store {o : Oper} {a : Act} {K : Act → World → Prop} {Q : Exit → Act → World → Prop} {W : World} {g : Nat} {x y : Operand} (p q r t : Int) (ho : o.op = .store 68 x y) (hx : a.eval x = .pointer (some ⟨g, 0, none⟩)) (hy : a.eval y = .agg #[.int .i64 p, .int .i64 q, .int .i64 r, .int .i64 t])
    (hc : ∀ i : Nat, i < 4 → W.cell? ⟨g, i, none⟩ = some (.int .i64 0) ∧ W.frozen? ⟨g, i, none⟩ = false)
    (h : ∀ W', move_Compare.Cells W' g [p, q, r, t] → (∀ B, B ≤ g → Below B W W') → (∀ c : Addr, c.block ≠ g → W'.cell? c = W.cell? c ∧ W'.frozen? c = W.frozen? c) → K (a.put o.dst undef) W') : Oper.wp Try.prog o a W K Q := by
  obtain ⟨c0, f0⟩ := hc 0 (by omega)
  obtain ⟨c1, f1⟩ := hc 1 (by omega)
  obtain ⟨c2, f2⟩ := hc 2 (by omega)
  obtain ⟨c3, f3⟩ := hc 3 (by omega)
  obtain ⟨dst, op, type, pos, after, guard⟩ := o
  dsimp only at ho
  subst ho
  unfold Oper.wp
  generalize a.eval = ev at hx hy ⊢
  go_simp
  refine h _ ?_ (fun B hB => ((((Below.refl B W).setCell (p := ⟨g, 0, none⟩) hB _).setCell (p := ⟨g, 1, none⟩) hB _).setCell (p := ⟨g, 2, none⟩) hB _).setCell (p := ⟨g, 3, none⟩) hB _) (fun c hcg => ?_)
  · intro i hi
    obtain rfl | rfl | rfl | rfl : i = 0 ∨ i = 1 ∨ i = 2 ∨ i = 3 := by omega
    all_goals simp [go_sem, c0, c1, c2, c3]
  · have e := ((Below.heap_setCell _ ⟨g, 3, none⟩ (.int .i64 t) c.block hcg).trans ((Below.heap_setCell _ ⟨g, 2, none⟩ (.int .i64 r) c.block hcg).trans ((Below.heap_setCell _ ⟨g, 1, none⟩ (.int .i64 q) c.block hcg).trans (Below.heap_setCell W ⟨g, 0, none⟩ (.int .i64 p) c.block hcg))))
    exact ⟨World.cell?_of_block e, World.frozen?_of_block e⟩
structure move_Compare.Half (w : World) (H : World → Prop) (W : World) (g k : Nat) (l : List Int) : Prop where
  held : H W
  cells : move_Compare.Cells W g l
  z7 : move_Compare.Zero w W k
  ne : g ≠ k
structure move_Compare.Full (w : World) (H : World → Prop) (W : World) (g k : Nat) (l m : List Int) : Prop where
  held : H W
  cells : move_Compare.Cells W g l
  cells7 : move_Compare.Cells W k m
theorem move_Compare.step_store8 {ops : Array Oper} {o : Oper} {a : Act} {K : Act → World → Prop} {Q : Exit → Act → World → Prop} {E : Prop} {w : World} {H : World → Prop} {W : World} {g k : Nat} (p q r t : Int) (hgd : o.guard = none) (hds : o.dst = none) (ho : o.op = .store 68 (.tmp 6) (.tmp 11)) (hx : a.eval (.tmp 6) = .pointer (some ⟨g, 0, none⟩)) (hy : a.eval (.tmp 11) = .agg #[.int .i64 p, .int .i64 q, .int .i64 r, .int .i64 t]) (hH : ∀ W W', H W → Below (w.heap.size + 2) W W' → H W') (s : move_Compare.St w H W (some g) (some k)) (h : ∀ W', move_Compare.Half w H W' g k [p, q, r, t] → K a W') : if Region.wanted o (yielded ops a.tmps) = true then Oper.wp Try.prog o a W K Q else E := by
  have hw : Region.wanted o (yielded ops a.tmps) = true := by simp [Region.wanted, hgd]
  rw [if_pos hw]
  have z := s.z6 g rfl
  obtain ⟨z0, z1, z2, z3, f0, f1, f2, f3, l, n⟩ := z
  refine move_Compare.wp_store p q r t ho hx hy (fun i hi => ?_) (fun W' hc hb hf => by rw [hds]; refine h W' ⟨hH _ _ s.held (hb _ n), hc, ?_, s.ne g k rfl rfl⟩; obtain ⟨y0, y1, y2, y3, e0, e1, e2, e3, l', n'⟩ := s.z7 k rfl; have ne : k ≠ g := fun e => s.ne g k rfl rfl e.symm; exact ⟨(hf ⟨k, 0, none⟩ ne).1.trans y0, (hf ⟨k, 1, none⟩ ne).1.trans y1, (hf ⟨k, 2, none⟩ ne).1.trans y2, (hf ⟨k, 3, none⟩ ne).1.trans y3, (hf ⟨k, 0, none⟩ ne).2.trans e0, (hf ⟨k, 1, none⟩ ne).2.trans e1, (hf ⟨k, 2, none⟩ ne).2.trans e2, (hf ⟨k, 3, none⟩ ne).2.trans e3, Nat.lt_of_lt_of_le l' (hb _ n).size, n'⟩)
  · obtain rfl | rfl | rfl | rfl : i = 0 ∨ i = 1 ∨ i = 2 ∨ i = 3 := by omega
    · exact ⟨z0, f0⟩
    · exact ⟨z1, f1⟩
    · exact ⟨z2, f2⟩
    · exact ⟨z3, f3⟩
theorem move_Compare.step_store9 {ops : Array Oper} {o : Oper} {a : Act} {K : Act → World → Prop} {Q : Exit → Act → World → Prop} {E : Prop} {w : World} {H : World → Prop} {W : World} {g k : Nat} {l : List Int} (p q r t : Int) (hgd : o.guard = none) (hds : o.dst = none) (ho : o.op = .store 68 (.tmp 7) (.tmp 14)) (hx : a.eval (.tmp 7) = .pointer (some ⟨k, 0, none⟩)) (hy : a.eval (.tmp 14) = .agg #[.int .i64 p, .int .i64 q, .int .i64 r, .int .i64 t]) (hH : ∀ W W', H W → Below (w.heap.size + 2) W W' → H W') (s : move_Compare.Half w H W g k l) (h : ∀ W', move_Compare.Full w H W' g k l [p, q, r, t] → K a W') : if Region.wanted o (yielded ops a.tmps) = true then Oper.wp Try.prog o a W K Q else E := by
  have hw : Region.wanted o (yielded ops a.tmps) = true := by simp [Region.wanted, hgd]
  rw [if_pos hw]
  obtain ⟨z0, z1, z2, z3, f0, f1, f2, f3, _, n⟩ := s.z7
  refine move_Compare.wp_store p q r t ho hx hy (fun i hi => ?_) (fun W' hc hb hf => by rw [hds]; refine h W' ⟨hH _ _ s.held (hb _ n), fun i hi => (hf ⟨g, i, none⟩ s.ne).1.trans (s.cells i hi), hc⟩)
  · obtain rfl | rfl | rfl | rfl : i = 0 ∨ i = 1 ∨ i = 2 ∨ i = 3 := by omega
    · exact ⟨z0, f0⟩
    · exact ⟨z1, f1⟩
    · exact ⟨z2, f2⟩
    · exact ⟨z3, f3⟩
theorem move_Compare.via_tail {P : Program} {md : Region.Mode} {ops : Array Oper} {Q : Exit → Act → World → Prop} {S : World → Prop} {a0 : Act} {w0 : World} {fuel0 : Nat} {listed0 : Array Bool} (T : World → Nat → Nat → Prop) (f0 f1 : Nat) (l0 l1 : Array Bool) (v11 v14 : Value) (hf : fuel0 = f0) (hl : listed0 = l0)
    (ht : ∀ W g k, T W g k → wpAnyH P md ops Q S f1 l1 ((((a0.put (some 6) (.pointer (some ⟨g, 0, none⟩))).put (some 7) (.pointer (some ⟨k, 0, none⟩))).put (some 11) v11).put (some 14) v14) W)
    (hm : (∀ W g k, T W g k → wpAnyH P md ops Q S f1 l1 ((((a0.put (some 6) (.pointer (some ⟨g, 0, none⟩))).put (some 7) (.pointer (some ⟨k, 0, none⟩))).put (some 11) v11).put (some 14) v14) W) → wpAnyH P md ops Q S f0 l0 a0 w0) : wpAnyH P md ops Q S fuel0 listed0 a0 w0 := by
  subst hf hl
  exact hm ht
set_option maxHeartbeats 4000000 in
theorem move_Compare.calls (a0_0 : Int) (a0_1 : Int) (a0_2 : Int) (a0_3 : Bool) (a1_0 : Int) (a1_1 : Int) (a1_2 : Int) (a1_3 : Bool) (r : Int) (w : World) (h : move_Compare.f a0_0 a0_1 a0_2 a0_3 a1_0 a1_1 a1_2 a1_3 = some r) :
    Calls Try.prog 29 #[.agg #[.int .i64 a0_0, .int .i64 a0_1, .int .i64 a0_2, .bool a0_3], .agg #[.int .i64 a1_0, .int .i64 a1_1, .int .i64 a1_2, .bool a1_3]] w fun e w' => e = .returned (.int .i64 r) ∧ Below w.heap.size w w' := by
  obtain rfl := Option.some.inj h; clear h
  have hu := Try.underlying38
  go_enter Try.func29, Try.ntmps29
  go_upto_region 2 with (fail)
  have hH : move_Compare.Held w a0_0 a0_1 a0_2 a0_3 a1_0 a1_1 a1_2 a1_3 ((w.alloc (Obj.cells #[.int .i64 a0_0, .int .i64 a0_1, .int .i64 a0_2, .bool a0_3] 38)).alloc (Obj.cells #[.int .i64 a1_0, .int .i64 a1_1, .int .i64 a1_2, .bool a1_3] 38)) := by
    refine ⟨?_, ?_, ?_, ?_, ?_, ?_, ?_, ?_, ?_, ((Below.refl _ w).alloc (Nat.le_refl _) _).alloc (by simp) _⟩ <;> simp [go_sem]
  obtain ⟨W, hW⟩ : ∃ W, W = ((w.alloc (Obj.cells #[.int .i64 a0_0, .int .i64 a0_1, .int .i64 a0_2, .bool a0_3] 38)).alloc (Obj.cells #[.int .i64 a1_0, .int .i64 a1_1, .int .i64 a1_2, .bool a1_3] 38)) := ⟨_, rfl⟩
  rw [← hW] at hH ⊢
  clear hW
  have hH' := hH
  obtain ⟨c0, c1, c2, c3, d0, d1, d2, d3, hsz, hB⟩ := hH
  go_cut [6, 7] (fun s6 s7 wx => ∃ g h : Nat, s6 = .pointer (some ⟨g, 0, none⟩) ∧ s7 = .pointer (some ⟨h, 0, none⟩) ∧ move_Compare.Mid w wx g h (move_Compare.row a0_0 a0_1 a0_2 a0_3) (move_Compare.row a1_0 a1_1 a1_2 a1_3))
  case first =>
    clear c0 c1 c2 c3 d0 d1 d2 d3
    have hst : ∀ W W' : World, (move_Compare.Held w a0_0 a0_1 a0_2 a0_3 a1_0 a1_1 a1_2 a1_3) W → Below (w.heap.size + 2) W W' → (move_Compare.Held w a0_0 a0_1 a0_2 a0_3 a1_0 a1_1 a1_2 a1_3) W' := fun W W' a b => move_Compare.Held.step a b
    have st : move_Compare.St w (move_Compare.Held w a0_0 a0_1 a0_2 a0_3 a1_0 a1_1 a1_2 a1_3) W.drew none none := ⟨move_Compare.Held.drew hH', hsz, (fun g e => nomatch e), (fun g e => nomatch e), (fun g k e _ => nomatch e)⟩
    refine wp_region_held_drew (S := (move_Compare.Held w a0_0 a0_1 a0_2 a0_3 a1_0 a1_1 a1_2 a1_3)) (by kernel_rfl) (move_Compare.Held.drew hH') (fun hHeld => ?_)
    refine wpAnyH_take (i := 0) (oi := ⟨some 9, .move (.tmp 5), 69, "move.go:94", #[], none⟩) (v := ?_) rfl (by kernel_rfl) (by kernel_rfl) (by kernel_rfl) (fun _ _ _ h => h) (Or.inl ⟨by rfl, ?_⟩) (by assumption) ?_
    rotate_left
    · intro w hSw
      obtain ⟨c0, c1, c2, c3, d0, d1, d2, d3, hsz, hB⟩ := hSw
      go_simp
      try with_reducible rfl
    (try simp only [Act.put, List.setIfInBounds_toArray, List.set_cons_zero, List.set_cons_succ])
    refine wpAnyH_take (i := 1) (oi := ⟨some 10, .load 38 (.tmp 2), 38, "move.go:94", #[], none⟩) (v := ?_) rfl (by kernel_rfl) (by kernel_rfl) (by kernel_rfl) (fun _ _ _ h => h) (Or.inl ⟨by rfl, ?_⟩) (by assumption) ?_
    rotate_left
    · intro w hSw
      obtain ⟨c0, c1, c2, c3, d0, d1, d2, d3, hsz, hB⟩ := hSw
      go_simp
      try with_reducible rfl
    (try simp only [Act.put, List.setIfInBounds_toArray, List.set_cons_zero, List.set_cons_succ])
    refine wpAnyH_take (i := 3) (oi := ⟨some 12, .move (.tmp 5), 69, "move.go:94", #[], none⟩) (v := ?_) rfl (by kernel_rfl) (by kernel_rfl) (by kernel_rfl) (fun _ _ _ h => h) (Or.inl ⟨by rfl, ?_⟩) (by assumption) ?_
    rotate_left
    · intro w hSw
      obtain ⟨c0, c1, c2, c3, d0, d1, d2, d3, hsz, hB⟩ := hSw
      go_simp
      try with_reducible rfl
    (try simp only [Act.put, List.setIfInBounds_toArray, List.set_cons_zero, List.set_cons_succ])
    refine wpAnyH_take (i := 4) (oi := ⟨some 13, .load 38 (.tmp 3), 38, "move.go:94", #[], none⟩) (v := ?_) rfl (by kernel_rfl) (by kernel_rfl) (by kernel_rfl) (fun _ _ _ h => h) (Or.inl ⟨by rfl, ?_⟩) (by assumption) ?_
    rotate_left
    · intro w hSw
      obtain ⟨c0, c1, c2, c3, d0, d1, d2, d3, hsz, hB⟩ := hSw
      go_simp
      try with_reducible rfl
    (try simp only [Act.put, List.setIfInBounds_toArray, List.set_cons_zero, List.set_cons_succ])
    refine move_Compare.via_tail (fun W g k => move_Compare.St w (move_Compare.Held w a0_0 a0_1 a0_2 a0_3 a1_0 a1_1 a1_2 a1_3) W (some g) (some k)) 6 2 #[true, true, false, true, true, false, false, false, false, false] #[true, true, true, true, true, true, true, true, false, false] (.agg #[.int .i64 a0_2, .int .i64 a0_0, .int .i64 a0_1, .int .i64 (move_Compare.one a0_3)]) (.agg #[.int .i64 a1_2, .int .i64 a1_0, .int .i64 a1_1, .int .i64 (move_Compare.one a1_3)]) (by kernel_rfl) (by kernel_rfl) ?_ (fun tail => ?_)
    · intro W1 g k st
      have hHeld := st.held
      simp only [Act.put, List.setIfInBounds_toArray, List.set_cons_zero, List.set_cons_succ]
      refine wpAnyH_ready (rs := [8]) (by kernel_rfl) (by simp) ?_
      refine AllReadyH.cons rfl (fun K hK => ?_) AllReadyH.nil
      refine move_Compare.step_store8 _ _ _ _ rfl rfl rfl rfl rfl hst st ?_
      intro W2 st
      refine hK.out _ _ st.held (fun hHeld => ?_)
      clear hK K
      refine wpAnyH_ready (rs := [9]) (by kernel_rfl) (by simp) ?_
      refine AllReadyH.cons rfl (fun K hK => ?_) AllReadyH.nil
      refine move_Compare.step_store9 _ _ _ _ rfl rfl rfl rfl rfl hst st ?_
      intro W3 st
      refine hK.out _ _ st.held (fun hHeld => ?_)
      clear hK K
      refine wpAnyH_done (by kernel_rfl) ?_ _
      go_wp2
      go_meet
      exact ⟨_, _, rfl, rfl, st.cells, st.cells7, hHeld.2.2.2.2.2.2.2.2.2⟩
    simp only [Act.put, List.setIfInBounds_toArray, List.set_cons_zero, List.set_cons_succ] at tail
    refine wpAnyH_ready (rs := [2, 6, 7]) (by kernel_rfl) (by simp) ?_
    refine AllReadyH.cons (o := ⟨some 11, .call { callee := .value (.tmp 9), args := #[.tmp 10], argTypes := #[38] }, 68, "move.go:94", #[⟨0, .data⟩, ⟨1, .data⟩], none⟩) rfl (fun K hK => ?_) ?_
    · go_simp
      refine (move_Compare.order_calls a0_0 a0_1 a0_2 a0_3 _).mono ?_
      rintro e w' ⟨rfl, hb⟩
      have st := move_Compare.St.call hst st hb
      refine hK.out _ _ st.held (fun hHeld => ?_)
      clear hK K
      (try simp only [Act.put, List.setIfInBounds_toArray, List.set_cons_zero, List.set_cons_succ])
      refine wpAnyH_ready (rs := [5, 6, 7]) (by kernel_rfl) (by simp) ?_
      refine AllReadyH.cons (o := ⟨some 14, .call { callee := .value (.tmp 12), args := #[.tmp 13], argTypes := #[38] }, 68, "move.go:94", #[⟨3, .data⟩, ⟨4, .data⟩, ⟨2, .chain⟩], none⟩) rfl (fun K hK => ?_) ?_
      · go_simp
        refine (move_Compare.order_calls a1_0 a1_1 a1_2 a1_3 _).mono ?_
        rintro e w' ⟨rfl, hb⟩
        have st := move_Compare.St.call hst st hb
        refine hK.out _ _ st.held (fun hHeld => ?_)
        clear hK K
        (try simp only [Act.put, List.setIfInBounds_toArray, List.set_cons_zero, List.set_cons_succ])
        refine wpAnyH_ready (rs := [6, 7]) (by kernel_rfl) (by simp) ?_
        refine AllReadyH.cons rfl (fun K hK => ?_) ?_
        · refine move_Compare.step_alloc6 rfl rfl rfl hst st ?_
          intro g6 w' st
          refine hK.out _ _ st.held (fun hHeld => ?_)
          clear hK K
          (try simp only [Act.put, List.setIfInBounds_toArray, List.set_cons_zero, List.set_cons_succ])
          refine wpAnyH_ready (rs := [7]) (by kernel_rfl) (by simp) ?_
          refine AllReadyH.cons rfl (fun K hK => ?_) ?_
          · refine move_Compare.step_alloc7 rfl rfl rfl hst st ?_
            intro g7 w' st
            refine hK.out _ _ st.held (fun hHeld => ?_)
            clear hK K
            (try simp only [Act.put, List.setIfInBounds_toArray, List.set_cons_zero, List.set_cons_succ])
            exact tail _ _ _ st
          exact AllReadyH.nil
        refine AllReadyH.cons rfl (fun K hK => ?_) ?_
        · refine move_Compare.step_alloc7 rfl rfl rfl hst st ?_
          intro g7 w' st
          refine hK.out _ _ st.held (fun hHeld => ?_)
          clear hK K
          (try simp only [Act.put, List.setIfInBounds_toArray, List.set_cons_zero, List.set_cons_succ])
          refine wpAnyH_ready (rs := [6]) (by kernel_rfl) (by simp) ?_
          refine AllReadyH.cons rfl (fun K hK => ?_) ?_
          · refine move_Compare.step_alloc6 rfl rfl rfl hst st ?_
            intro g6 w' st
            refine hK.out _ _ st.held (fun hHeld => ?_)
            clear hK K
            (try simp only [Act.put, List.setIfInBounds_toArray, List.set_cons_zero, List.set_cons_succ])
            exact tail _ _ _ st
          exact AllReadyH.nil
        exact AllReadyH.nil
      refine AllReadyH.cons rfl (fun K hK => ?_) ?_
      · refine move_Compare.step_alloc6 rfl rfl rfl hst st ?_
        intro g6 w' st
        refine hK.out _ _ st.held (fun hHeld => ?_)
        clear hK K
        (try simp only [Act.put, List.setIfInBounds_toArray, List.set_cons_zero, List.set_cons_succ])
        refine wpAnyH_ready (rs := [5, 7]) (by kernel_rfl) (by simp) ?_
        refine AllReadyH.cons (o := ⟨some 14, .call { callee := .value (.tmp 12), args := #[.tmp 13], argTypes := #[38] }, 68, "move.go:94", #[⟨3, .data⟩, ⟨4, .data⟩, ⟨2, .chain⟩], none⟩) rfl (fun K hK => ?_) ?_
        · go_simp
          refine (move_Compare.order_calls a1_0 a1_1 a1_2 a1_3 _).mono ?_
          rintro e w' ⟨rfl, hb⟩
          have st := move_Compare.St.call hst st hb
          refine hK.out _ _ st.held (fun hHeld => ?_)
          clear hK K
          (try simp only [Act.put, List.setIfInBounds_toArray, List.set_cons_zero, List.set_cons_succ])
          refine wpAnyH_ready (rs := [7]) (by kernel_rfl) (by simp) ?_
          refine AllReadyH.cons rfl (fun K hK => ?_) ?_
          · refine move_Compare.step_alloc7 rfl rfl rfl hst st ?_
            intro g7 w' st
            refine hK.out _ _ st.held (fun hHeld => ?_)
            clear hK K
            (try simp only [Act.put, List.setIfInBounds_toArray, List.set_cons_zero, List.set_cons_succ])
            exact tail _ _ _ st
          exact AllReadyH.nil
        refine AllReadyH.cons rfl (fun K hK => ?_) ?_
        · refine move_Compare.step_alloc7 rfl rfl rfl hst st ?_
          intro g7 w' st
          refine hK.out _ _ st.held (fun hHeld => ?_)
          clear hK K
          (try simp only [Act.put, List.setIfInBounds_toArray, List.set_cons_zero, List.set_cons_succ])
          refine wpAnyH_ready (rs := [5]) (by kernel_rfl) (by simp) ?_
          refine AllReadyH.cons (o := ⟨some 14, .call { callee := .value (.tmp 12), args := #[.tmp 13], argTypes := #[38] }, 68, "move.go:94", #[⟨3, .data⟩, ⟨4, .data⟩, ⟨2, .chain⟩], none⟩) rfl (fun K hK => ?_) ?_
          · go_simp
            refine (move_Compare.order_calls a1_0 a1_1 a1_2 a1_3 _).mono ?_
            rintro e w' ⟨rfl, hb⟩
            have st := move_Compare.St.call hst st hb
            refine hK.out _ _ st.held (fun hHeld => ?_)
            clear hK K
            (try simp only [Act.put, List.setIfInBounds_toArray, List.set_cons_zero, List.set_cons_succ])
            exact tail _ _ _ st
          exact AllReadyH.nil
        exact AllReadyH.nil
      refine AllReadyH.cons rfl (fun K hK => ?_) ?_
      · refine move_Compare.step_alloc7 rfl rfl rfl hst st ?_
        intro g7 w' st
        refine hK.out _ _ st.held (fun hHeld => ?_)
        clear hK K
        (try simp only [Act.put, List.setIfInBounds_toArray, List.set_cons_zero, List.set_cons_succ])
        refine wpAnyH_ready (rs := [5, 6]) (by kernel_rfl) (by simp) ?_
        refine AllReadyH.cons (o := ⟨some 14, .call { callee := .value (.tmp 12), args := #[.tmp 13], argTypes := #[38] }, 68, "move.go:94", #[⟨3, .data⟩, ⟨4, .data⟩, ⟨2, .chain⟩], none⟩) rfl (fun K hK => ?_) ?_
        · go_simp
          refine (move_Compare.order_calls a1_0 a1_1 a1_2 a1_3 _).mono ?_
          rintro e w' ⟨rfl, hb⟩
          have st := move_Compare.St.call hst st hb
          refine hK.out _ _ st.held (fun hHeld => ?_)
          clear hK K
          (try simp only [Act.put, List.setIfInBounds_toArray, List.set_cons_zero, List.set_cons_succ])
          refine wpAnyH_ready (rs := [6]) (by kernel_rfl) (by simp) ?_
          refine AllReadyH.cons rfl (fun K hK => ?_) ?_
          · refine move_Compare.step_alloc6 rfl rfl rfl hst st ?_
            intro g6 w' st
            refine hK.out _ _ st.held (fun hHeld => ?_)
            clear hK K
            (try simp only [Act.put, List.setIfInBounds_toArray, List.set_cons_zero, List.set_cons_succ])
            exact tail _ _ _ st
          exact AllReadyH.nil
        refine AllReadyH.cons rfl (fun K hK => ?_) ?_
        · refine move_Compare.step_alloc6 rfl rfl rfl hst st ?_
          intro g6 w' st
          refine hK.out _ _ st.held (fun hHeld => ?_)
          clear hK K
          (try simp only [Act.put, List.setIfInBounds_toArray, List.set_cons_zero, List.set_cons_succ])
          refine wpAnyH_ready (rs := [5]) (by kernel_rfl) (by simp) ?_
          refine AllReadyH.cons (o := ⟨some 14, .call { callee := .value (.tmp 12), args := #[.tmp 13], argTypes := #[38] }, 68, "move.go:94", #[⟨3, .data⟩, ⟨4, .data⟩, ⟨2, .chain⟩], none⟩) rfl (fun K hK => ?_) ?_
          · go_simp
            refine (move_Compare.order_calls a1_0 a1_1 a1_2 a1_3 _).mono ?_
            rintro e w' ⟨rfl, hb⟩
            have st := move_Compare.St.call hst st hb
            refine hK.out _ _ st.held (fun hHeld => ?_)
            clear hK K
            (try simp only [Act.put, List.setIfInBounds_toArray, List.set_cons_zero, List.set_cons_succ])
            exact tail _ _ _ st
          exact AllReadyH.nil
        exact AllReadyH.nil
      exact AllReadyH.nil
    refine AllReadyH.cons rfl (fun K hK => ?_) ?_
    · refine move_Compare.step_alloc6 rfl rfl rfl hst st ?_
      intro g6 w' st
      refine hK.out _ _ st.held (fun hHeld => ?_)
      clear hK K
      (try simp only [Act.put, List.setIfInBounds_toArray, List.set_cons_zero, List.set_cons_succ])
      refine wpAnyH_ready (rs := [2, 7]) (by kernel_rfl) (by simp) ?_
      refine AllReadyH.cons (o := ⟨some 11, .call { callee := .value (.tmp 9), args := #[.tmp 10], argTypes := #[38] }, 68, "move.go:94", #[⟨0, .data⟩, ⟨1, .data⟩], none⟩) rfl (fun K hK => ?_) ?_
      · go_simp
        refine (move_Compare.order_calls a0_0 a0_1 a0_2 a0_3 _).mono ?_
        rintro e w' ⟨rfl, hb⟩
        have st := move_Compare.St.call hst st hb
        refine hK.out _ _ st.held (fun hHeld => ?_)
        clear hK K
        (try simp only [Act.put, List.setIfInBounds_toArray, List.set_cons_zero, List.set_cons_succ])
        refine wpAnyH_ready (rs := [5, 7]) (by kernel_rfl) (by simp) ?_
        refine AllReadyH.cons (o := ⟨some 14, .call { callee := .value (.tmp 12), args := #[.tmp 13], argTypes := #[38] }, 68, "move.go:94", #[⟨3, .data⟩, ⟨4, .data⟩, ⟨2, .chain⟩], none⟩) rfl (fun K hK => ?_) ?_
        · go_simp
          refine (move_Compare.order_calls a1_0 a1_1 a1_2 a1_3 _).mono ?_
          rintro e w' ⟨rfl, hb⟩
          have st := move_Compare.St.call hst st hb
          refine hK.out _ _ st.held (fun hHeld => ?_)
          clear hK K
          (try simp only [Act.put, List.setIfInBounds_toArray, List.set_cons_zero, List.set_cons_succ])
          refine wpAnyH_ready (rs := [7]) (by kernel_rfl) (by simp) ?_
          refine AllReadyH.cons rfl (fun K hK => ?_) ?_
          · refine move_Compare.step_alloc7 rfl rfl rfl hst st ?_
            intro g7 w' st
            refine hK.out _ _ st.held (fun hHeld => ?_)
            clear hK K
            (try simp only [Act.put, List.setIfInBounds_toArray, List.set_cons_zero, List.set_cons_succ])
            exact tail _ _ _ st
          exact AllReadyH.nil
        refine AllReadyH.cons rfl (fun K hK => ?_) ?_
        · refine move_Compare.step_alloc7 rfl rfl rfl hst st ?_
          intro g7 w' st
          refine hK.out _ _ st.held (fun hHeld => ?_)
          clear hK K
          (try simp only [Act.put, List.setIfInBounds_toArray, List.set_cons_zero, List.set_cons_succ])
          refine wpAnyH_ready (rs := [5]) (by kernel_rfl) (by simp) ?_
          refine AllReadyH.cons (o := ⟨some 14, .call { callee := .value (.tmp 12), args := #[.tmp 13], argTypes := #[38] }, 68, "move.go:94", #[⟨3, .data⟩, ⟨4, .data⟩, ⟨2, .chain⟩], none⟩) rfl (fun K hK => ?_) ?_
          · go_simp
            refine (move_Compare.order_calls a1_0 a1_1 a1_2 a1_3 _).mono ?_
            rintro e w' ⟨rfl, hb⟩
            have st := move_Compare.St.call hst st hb
            refine hK.out _ _ st.held (fun hHeld => ?_)
            clear hK K
            (try simp only [Act.put, List.setIfInBounds_toArray, List.set_cons_zero, List.set_cons_succ])
            exact tail _ _ _ st
          exact AllReadyH.nil
        exact AllReadyH.nil
      refine AllReadyH.cons rfl (fun K hK => ?_) ?_
      · refine move_Compare.step_alloc7 rfl rfl rfl hst st ?_
        intro g7 w' st
        refine hK.out _ _ st.held (fun hHeld => ?_)
        clear hK K
        (try simp only [Act.put, List.setIfInBounds_toArray, List.set_cons_zero, List.set_cons_succ])
        refine wpAnyH_ready (rs := [2]) (by kernel_rfl) (by simp) ?_
        refine AllReadyH.cons (o := ⟨some 11, .call { callee := .value (.tmp 9), args := #[.tmp 10], argTypes := #[38] }, 68, "move.go:94", #[⟨0, .data⟩, ⟨1, .data⟩], none⟩) rfl (fun K hK => ?_) ?_
        · go_simp
          refine (move_Compare.order_calls a0_0 a0_1 a0_2 a0_3 _).mono ?_
          rintro e w' ⟨rfl, hb⟩
          have st := move_Compare.St.call hst st hb
          refine hK.out _ _ st.held (fun hHeld => ?_)
          clear hK K
          (try simp only [Act.put, List.setIfInBounds_toArray, List.set_cons_zero, List.set_cons_succ])
          refine wpAnyH_ready (rs := [5]) (by kernel_rfl) (by simp) ?_
          refine AllReadyH.cons (o := ⟨some 14, .call { callee := .value (.tmp 12), args := #[.tmp 13], argTypes := #[38] }, 68, "move.go:94", #[⟨3, .data⟩, ⟨4, .data⟩, ⟨2, .chain⟩], none⟩) rfl (fun K hK => ?_) ?_
          · go_simp
            refine (move_Compare.order_calls a1_0 a1_1 a1_2 a1_3 _).mono ?_
            rintro e w' ⟨rfl, hb⟩
            have st := move_Compare.St.call hst st hb
            refine hK.out _ _ st.held (fun hHeld => ?_)
            clear hK K
            (try simp only [Act.put, List.setIfInBounds_toArray, List.set_cons_zero, List.set_cons_succ])
            exact tail _ _ _ st
          exact AllReadyH.nil
        exact AllReadyH.nil
      exact AllReadyH.nil
    refine AllReadyH.cons rfl (fun K hK => ?_) ?_
    · refine move_Compare.step_alloc7 rfl rfl rfl hst st ?_
      intro g7 w' st
      refine hK.out _ _ st.held (fun hHeld => ?_)
      clear hK K
      (try simp only [Act.put, List.setIfInBounds_toArray, List.set_cons_zero, List.set_cons_succ])
      refine wpAnyH_ready (rs := [2, 6]) (by kernel_rfl) (by simp) ?_
      refine AllReadyH.cons (o := ⟨some 11, .call { callee := .value (.tmp 9), args := #[.tmp 10], argTypes := #[38] }, 68, "move.go:94", #[⟨0, .data⟩, ⟨1, .data⟩], none⟩) rfl (fun K hK => ?_) ?_
      · go_simp
        refine (move_Compare.order_calls a0_0 a0_1 a0_2 a0_3 _).mono ?_
        rintro e w' ⟨rfl, hb⟩
        have st := move_Compare.St.call hst st hb
        refine hK.out _ _ st.held (fun hHeld => ?_)
        clear hK K
        (try simp only [Act.put, List.setIfInBounds_toArray, List.set_cons_zero, List.set_cons_succ])
        refine wpAnyH_ready (rs := [5, 6]) (by kernel_rfl) (by simp) ?_
        refine AllReadyH.cons (o := ⟨some 14, .call { callee := .value (.tmp 12), args := #[.tmp 13], argTypes := #[38] }, 68, "move.go:94", #[⟨3, .data⟩, ⟨4, .data⟩, ⟨2, .chain⟩], none⟩) rfl (fun K hK => ?_) ?_
        · go_simp
          refine (move_Compare.order_calls a1_0 a1_1 a1_2 a1_3 _).mono ?_
          rintro e w' ⟨rfl, hb⟩
          have st := move_Compare.St.call hst st hb
          refine hK.out _ _ st.held (fun hHeld => ?_)
          clear hK K
          (try simp only [Act.put, List.setIfInBounds_toArray, List.set_cons_zero, List.set_cons_succ])
          refine wpAnyH_ready (rs := [6]) (by kernel_rfl) (by simp) ?_
          refine AllReadyH.cons rfl (fun K hK => ?_) ?_
          · refine move_Compare.step_alloc6 rfl rfl rfl hst st ?_
            intro g6 w' st
            refine hK.out _ _ st.held (fun hHeld => ?_)
            clear hK K
            (try simp only [Act.put, List.setIfInBounds_toArray, List.set_cons_zero, List.set_cons_succ])
            exact tail _ _ _ st
          exact AllReadyH.nil
        refine AllReadyH.cons rfl (fun K hK => ?_) ?_
        · refine move_Compare.step_alloc6 rfl rfl rfl hst st ?_
          intro g6 w' st
          refine hK.out _ _ st.held (fun hHeld => ?_)
          clear hK K
          (try simp only [Act.put, List.setIfInBounds_toArray, List.set_cons_zero, List.set_cons_succ])
          refine wpAnyH_ready (rs := [5]) (by kernel_rfl) (by simp) ?_
          refine AllReadyH.cons (o := ⟨some 14, .call { callee := .value (.tmp 12), args := #[.tmp 13], argTypes := #[38] }, 68, "move.go:94", #[⟨3, .data⟩, ⟨4, .data⟩, ⟨2, .chain⟩], none⟩) rfl (fun K hK => ?_) ?_
          · go_simp
            refine (move_Compare.order_calls a1_0 a1_1 a1_2 a1_3 _).mono ?_
            rintro e w' ⟨rfl, hb⟩
            have st := move_Compare.St.call hst st hb
            refine hK.out _ _ st.held (fun hHeld => ?_)
            clear hK K
            (try simp only [Act.put, List.setIfInBounds_toArray, List.set_cons_zero, List.set_cons_succ])
            exact tail _ _ _ st
          exact AllReadyH.nil
        exact AllReadyH.nil
      refine AllReadyH.cons rfl (fun K hK => ?_) ?_
      · refine move_Compare.step_alloc6 rfl rfl rfl hst st ?_
        intro g6 w' st
        refine hK.out _ _ st.held (fun hHeld => ?_)
        clear hK K
        (try simp only [Act.put, List.setIfInBounds_toArray, List.set_cons_zero, List.set_cons_succ])
        refine wpAnyH_ready (rs := [2]) (by kernel_rfl) (by simp) ?_
        refine AllReadyH.cons (o := ⟨some 11, .call { callee := .value (.tmp 9), args := #[.tmp 10], argTypes := #[38] }, 68, "move.go:94", #[⟨0, .data⟩, ⟨1, .data⟩], none⟩) rfl (fun K hK => ?_) ?_
        · go_simp
          refine (move_Compare.order_calls a0_0 a0_1 a0_2 a0_3 _).mono ?_
          rintro e w' ⟨rfl, hb⟩
          have st := move_Compare.St.call hst st hb
          refine hK.out _ _ st.held (fun hHeld => ?_)
          clear hK K
          (try simp only [Act.put, List.setIfInBounds_toArray, List.set_cons_zero, List.set_cons_succ])
          refine wpAnyH_ready (rs := [5]) (by kernel_rfl) (by simp) ?_
          refine AllReadyH.cons (o := ⟨some 14, .call { callee := .value (.tmp 12), args := #[.tmp 13], argTypes := #[38] }, 68, "move.go:94", #[⟨3, .data⟩, ⟨4, .data⟩, ⟨2, .chain⟩], none⟩) rfl (fun K hK => ?_) ?_
          · go_simp
            refine (move_Compare.order_calls a1_0 a1_1 a1_2 a1_3 _).mono ?_
            rintro e w' ⟨rfl, hb⟩
            have st := move_Compare.St.call hst st hb
            refine hK.out _ _ st.held (fun hHeld => ?_)
            clear hK K
            (try simp only [Act.put, List.setIfInBounds_toArray, List.set_cons_zero, List.set_cons_succ])
            exact tail _ _ _ st
          exact AllReadyH.nil
        exact AllReadyH.nil
      exact AllReadyH.nil
    exact AllReadyH.nil
  case rest =>
    obtain ⟨g, h, rfl, rfl, hL, hM, hbw0⟩ := hcut
    clear c0 c1 c2 c3 d0 d1 d2 d3 hsz hB hH'
    obtain ⟨L, hLe⟩ : ∃ L, L = move_Compare.row a0_0 a0_1 a0_2 a0_3 := ⟨_, rfl⟩
    obtain ⟨M, hMe⟩ : ∃ M, M = move_Compare.row a1_0 a1_1 a1_2 a1_3 := ⟨_, rfl⟩
    rw [← hLe] at hL
    rw [← hMe] at hM
    have hlL : L.length = 4 := by rw [hLe]; rfl
    have hlM : M.length = 4 := by rw [hMe]; rfl
    go_wp2
    go_loopg [15] 5 (fun gf s15 wx => ∃ j : Nat, s15 = .int .i64 j ∧ j ≤ 4 ∧ Hid (move_Compare.Cells wx g L) ∧ Hid (move_Compare.Cells wx h M) ∧ Below w.heap.size w wx ∧ Hid (move_Compare.cmp (L.drop j) (M.drop j) = move_Compare.cmp L M) ∧ 4 ≤ j + gf)
    case atStart => exact ⟨0, rfl, by omega, Lib.hid hL, Lib.hid hM, hbw0, Lib.hid rfl, by omega⟩
    case round =>
      clear hL hM hbw0
      obtain ⟨j, rfl, hj, hL, hM, hbw, hcmp, hgf⟩ := hrel
      by_cases hj4 : j = 4
      · subst hj4
        have e : move_Compare.cmp L M = 0 := by rw [← hcmp.out, List.drop_of_length_le (by omega), List.drop_of_length_le (by omega)]; rfl
        have HE := Lib.hid e; clear e
        go_wp2
        go_ret
        rw [← hLe, ← hMe, HE.out]
        exact ⟨rfl, hbw⟩
      · have cL := hL.out j (by omega)
        have cM := hM.out j (by omega)
        have hj0 : decide ((j : Int) < 4) = true := decide_eq_true (by omega)
        have eL : L.drop j = L.getD j 0 :: L.drop (j + 1) := by rw [List.drop_eq_getElem_cons (by omega), List.getD_eq_getElem?_getD, List.getElem?_eq_getElem (by omega)]; rfl
        have eM : M.drop j = M.getD j 0 :: M.drop (j + 1) := by rw [List.drop_eq_getElem_cons (by omega), List.getD_eq_getElem?_getD, List.getElem?_eq_getElem (by omega)]; rfl
        have hc := hcmp.out
        rw [eL, eM] at hc
        obtain ⟨x, hx⟩ : ∃ x, x = L.getD j 0 := ⟨_, rfl⟩
        obtain ⟨y, hy⟩ : ∃ y, y = M.getD j 0 := ⟨_, rfl⟩
        rw [← hx] at cL hc
        rw [← hy] at cM hc
        have hc' : (if x < y then -1 else if x > y then 1 else move_Compare.cmp (L.drop (j + 1)) (M.drop (j + 1))) = move_Compare.cmp L M := hc
        have ew : IntKind.i64.wrap (j + 1) = j + 1 := IntWalk.i64_in _ (by omega)
        have HX := Lib.hid hx; have HY := Lib.hid hy; have EL := Lib.hid eL; have EM := Lib.hid eM; clear hx hy eL eM hc
        have HLE := Lib.hid hLe; have HME := Lib.hid hMe; have HLL := Lib.hid hlL; have HLM := Lib.hid hlM; clear hLe hMe hlL hlM
        go_wp2
        go_quiet (fail)
        have cL2 : (wr.drewN nq).cell? ⟨g, j, none⟩ = some (.int .i64 x) := cL
        have cM2 : (wr.drewN nq).cell? ⟨h, j, none⟩ = some (.int .i64 y) := cM
        have hbw2 : Below w.heap.size w (wr.drewN nq) := pw_below_drewN hbw _
        have hL2 : move_Compare.Cells (wr.drewN nq) g L := hL.out
        have hM2 : move_Compare.Cells (wr.drewN nq) h M := hM.out
        have HL2 := Lib.hid hL2; have HM2 := Lib.hid hM2; clear hL2 hM2 hbw cL cM
        generalize wr.drewN nq = wr2 at *
        by_cases h1 : x < y
        · rw [if_pos h1] at hc'
          have HC := Lib.hid hc'; clear hc'
          have b1 : decide (x < y) = true := decide_eq_true h1
          have H1 := Lib.hid h1; clear h1
          rw [b1]
          go_wp2
          go_ret
          rw [← HLE.out, ← HME.out, ← HC.out]
          exact ⟨rfl, hbw2⟩
        · rw [if_neg h1] at hc'
          have b1 : decide (x < y) = false := decide_eq_false h1
          have H1 := Lib.hid h1; clear h1
          rw [b1]
          go_wp2
          go_quiet (fail)
          have hbw3 : Below w.heap.size w (wr2.drewN nq) := pw_below_drewN hbw2 _
          have hL3 : move_Compare.Cells (wr2.drewN nq) g L := HL2.out
          have hM3 : move_Compare.Cells (wr2.drewN nq) h M := HM2.out
          have HL3 := Lib.hid hL3; have HM3 := Lib.hid hM3; clear hL3 hM3 hbw2 cL2 cM2
          generalize wr2.drewN nq = wr3 at *
          by_cases h2 : x > y
          · rw [if_pos h2] at hc'
            have HC := Lib.hid hc'; clear hc'
            have b2 : decide (y < x) = true := decide_eq_true h2
            have H2 := Lib.hid h2; clear h2
            rw [b2]
            go_wp2
            go_ret
            rw [← HLE.out, ← HME.out, ← HC.out]
            exact ⟨rfl, hbw3⟩
          · rw [if_neg h2] at hc'
            have HC := Lib.hid hc'; clear hc'
            have b2 : decide (y < x) = false := decide_eq_false h2
            have H2 := Lib.hid h2; clear h2
            rw [b2]
            obtain ⟨g', rfl⟩ : ∃ g', gk = g' + 1 := ⟨gk - 1, by omega⟩
            go_wp2
            go_roundg g'
            case measure => omega
            case rel => exact ⟨j + 1, by simp, by omega, HL3, HM3, hbw3, Lib.hid HC.out, by omega⟩

/-! ### kakugyoref07_Less: function 30 -/
def kakugyoref07_Less.f (a0_0 : Int) (a0_1 : Int) (a0_2 : Int) (a0_3 : Bool) (a1_0 : Int) (a1_1 : Int) (a1_2 : Int) (a1_3 : Bool) : Option (Bool) := if a0_2 = a1_2 then (if a0_0 = a1_0 then (if a0_1 = a1_1 then (if a0_3 = true then (some false) else (some a1_3)) else (some (decide (a0_1 < a1_1)))) else (some (decide (a0_0 < a1_0)))) else (some (decide (a0_2 < a1_2)))
set_option maxHeartbeats 8000000 in
set_option maxRecDepth 100000 in
theorem kakugyoref07_Less.calls (a0_0 : Int) (a0_1 : Int) (a0_2 : Int) (a0_3 : Bool) (a1_0 : Int) (a1_1 : Int) (a1_2 : Int) (a1_3 : Bool) (r : Bool) (w : World) (h : kakugyoref07_Less.f a0_0 a0_1 a0_2 a0_3 a1_0 a1_1 a1_2 a1_3 = some r) :
    Calls Try.prog 30 #[.agg #[.int .i64 a0_0, .int .i64 a0_1, .int .i64 a0_2, .bool a0_3], .agg #[.int .i64 a1_0, .int .i64 a1_1, .int .i64 a1_2, .bool a1_3]] w fun e w' => e = .returned (.bool r) ∧ Below w.heap.size w w' := by
  have hu38 := Try.underlying38
  have HB := Aside0.mk (Below.refl w.heap.size w)
  have H : (if a0_2 = a1_2 then (if a0_0 = a1_0 then (if a0_1 = a1_1 then (if a0_3 = true then (some false) else (some a1_3)) else (some (decide (a0_1 < a1_1)))) else (some (decide (a0_0 < a1_0)))) else (some (decide (a0_2 < a1_2)))) = some r := h
  clear h
  by_cases c3 : a0_2 = a1_2
  · rw [if_pos c3] at H
    have c3b0 : (a0_2 == a1_2) = true := beq_iff_eq.mpr c3
    have c3b1 : (a0_2 != a1_2) = false := bne_eq_false_iff_eq.mpr c3
    clear c3
    by_cases c4 : a0_0 = a1_0
    · rw [if_pos c4] at H
      have c4b0 : (a0_0 == a1_0) = true := beq_iff_eq.mpr c4
      have c4b1 : (a0_0 != a1_0) = false := bne_eq_false_iff_eq.mpr c4
      clear c4
      by_cases c5 : a0_1 = a1_1
      · rw [if_pos c5] at H
        have c5b0 : (a0_1 == a1_1) = true := beq_iff_eq.mpr c5
        have c5b1 : (a0_1 != a1_1) = false := bne_eq_false_iff_eq.mpr c5
        clear c5
        by_cases c6 : a0_3 = true
        · subst c6
          have H1 : (some false) = some r := by rw [if_pos rfl] at H; exact H
          clear H
          have H := H1
          clear H1
          obtain rfl := Option.some.inj H
          go_enter Try.func30, Try.ntmps30
          go_wp2_with (first | ((with_reducible refine gate_dst (N := 2) rfl ?_); refine box_event ?hg (N := 2) ?hd (cs := #[.int .i64 a0_0, .int .i64 a0_1, .int .i64 a0_2, .bool true]) (t := 38) ?hr ?_; (case hd => rfl); (case hg => rfl); (case hr => first | (go_simp; done) | (go_simp; rfl)); intro gb185 hg w7 hbox hb; have n0_ := Aside0.mk (below_step (by repeat (first | (with_reducible first | exact HB.out | apply below_alloc | apply pw_below_drewN | apply below_drew1) | exact HB.out)) hb); have n1_ := Aside0.mk (hbox); have n2_ := Aside0.mk ((by rw [hg]; exact (below_size (by repeat (first | (with_reducible first | exact HB.out | apply below_alloc | apply pw_below_drewN | apply below_drew1) | exact HB.out))) : w.heap.size ≤ gb185)); have n3_ := Aside0.mk ((by rw [hg]; exact (below_size (by repeat (first | (with_reducible first | exact HB.out | apply below_alloc | apply pw_below_drewN | apply below_drew1) | exact HB.out))) : w.heap.size ≤ gb185)); clear HB; have HB := n0_; have BK185 := n1_; have GW185 := n2_; have GE185 := n3_; clear n0_ n1_ n2_ n3_; clear hb hbox hg) | ((with_reducible refine gate_dst (N := 3) rfl ?_); refine box_event ?hg (N := 3) ?hd (cs := #[.int .i64 a1_0, .int .i64 a1_1, .int .i64 a1_2, .bool a1_3]) (t := 38) ?hr ?_; (case hd => rfl); (case hg => rfl); (case hr => first | (go_simp; done) | (go_simp; rfl)); intro gb186 hg w8 hbox hb; have n0_ := Aside0.mk (blk_below (g := gb185) (o := .cells #[.int .i64 a0_0, .int .i64 a0_1, .int .i64 a0_2, .bool true] 38 (0, 0)) (by (with_reducible repeat (first | refine blk_drewN ?_ _ | refine blk_drew ?_ | refine blk_alloc ?_ _)); exact BK185.out) hb); have n1_ := Aside0.mk (below_step (by repeat (first | (with_reducible first | exact HB.out | apply below_alloc | apply pw_below_drewN | apply below_drew1 | refine below_set ?_ GE185.out) | exact HB.out)) hb); have n2_ := Aside0.mk (hbox); have n3_ := Aside0.mk ((by rw [hg]; exact (below_size (by repeat (first | (with_reducible first | exact HB.out | apply below_alloc | apply pw_below_drewN | apply below_drew1 | refine below_set ?_ GE185.out) | exact HB.out))) : w.heap.size ≤ gb186)); have n4_ := Aside0.mk ((by rw [hg]; exact (below_size (by repeat (first | (with_reducible first | exact HB.out | apply below_alloc | apply pw_below_drewN | apply below_drew1 | refine below_set ?_ GE185.out) | exact HB.out))) : w.heap.size ≤ gb186)); have n5_ := Aside0.mk ((by rw [hg]; exact Nat.ne_of_lt (blk_lt (g := gb185) (o := .cells #[.int .i64 a0_0, .int .i64 a0_1, .int .i64 a0_2, .bool true] 38 (0, 0)) (by (with_reducible repeat (first | refine blk_drewN ?_ _ | refine blk_drew ?_ | refine blk_alloc ?_ _)); exact BK185.out)) : gb185 ≠ gb186)); have n6_ := Aside0.mk ((by rw [hg]; exact Nat.ne_of_gt (blk_lt (g := gb185) (o := .cells #[.int .i64 a0_0, .int .i64 a0_1, .int .i64 a0_2, .bool true] 38 (0, 0)) (by (with_reducible repeat (first | refine blk_drewN ?_ _ | refine blk_drew ?_ | refine blk_alloc ?_ _)); exact BK185.out)) : gb186 ≠ gb185)); clear BK185; clear HB; have BK185 := n0_; have HB := n1_; have BK186 := n2_; have GW186 := n3_; have GE186 := n4_; have NB185_186 := n5_; have NB186_185 := n6_; clear n0_ n1_ n2_ n3_ n4_ n5_ n6_; clear hb hbox hg; have hnb9 := NB185_186.out; have hnc9 := NB186_185.out; have hcz10_0 : w8.cell? ⟨gb185, 0, none⟩ = some (.int .i64 a0_0) := (blk_cell BK185.out 0).trans rfl; have hcz10_1 : w8.cell? ⟨gb185, 1, none⟩ = some (.int .i64 a0_1) := (blk_cell BK185.out 1).trans rfl; have hcz10_2 : w8.cell? ⟨gb185, 2, none⟩ = some (.int .i64 a0_2) := (blk_cell BK185.out 2).trans rfl; have hcz10_3 : w8.cell? ⟨gb185, 3, none⟩ = some (.bool true) := (blk_cell BK185.out 3).trans rfl; have hfz10_0 := blk_frozen BK185.out 0; have hfz10_1 := blk_frozen BK185.out 1; have hfz10_2 := blk_frozen BK185.out 2; have hfz10_3 := blk_frozen BK185.out 3; have hcz11_0 : w8.cell? ⟨gb186, 0, none⟩ = some (.int .i64 a1_0) := (blk_cell BK186.out 0).trans rfl; have hcz11_1 : w8.cell? ⟨gb186, 1, none⟩ = some (.int .i64 a1_1) := (blk_cell BK186.out 1).trans rfl; have hcz11_2 : w8.cell? ⟨gb186, 2, none⟩ = some (.int .i64 a1_2) := (blk_cell BK186.out 2).trans rfl; have hcz11_3 : w8.cell? ⟨gb186, 3, none⟩ = some (.bool a1_3) := (blk_cell BK186.out 3).trans rfl; have hfz11_0 := blk_frozen BK186.out 0; have hfz11_1 := blk_frozen BK186.out 1; have hfz11_2 := blk_frozen BK186.out 2; have hfz11_3 := blk_frozen BK186.out 3))
          go_ret
          exact ⟨by first | rfl | (simp [errW_none, errW_some] <;> rfl) | (simp [*, errW_none, errW_some] <;> rfl) | (simp [*, errW_none, errW_some]; generalize ByteArray.toList _ = q_; cases q_ <;> rfl), by repeat (first | (with_reducible first | exact HB.out | apply below_alloc | apply pw_below_drewN | apply below_drew1 | refine below_set ?_ GE185.out | refine below_set ?_ GE186.out) | exact HB.out)⟩
        · replace c6 := Bool.eq_false_iff.mpr c6
          subst c6
          have H1 : (some a1_3) = some r := by rw [if_neg (show ¬ (false = true) by decide)] at H; exact H
          clear H
          have H := H1
          clear H1
          obtain rfl := Option.some.inj H
          go_enter Try.func30, Try.ntmps30
          go_wp2_with (first | ((with_reducible refine gate_dst (N := 2) rfl ?_); refine box_event ?hg (N := 2) ?hd (cs := #[.int .i64 a0_0, .int .i64 a0_1, .int .i64 a0_2, .bool false]) (t := 38) ?hr ?_; (case hd => rfl); (case hg => rfl); (case hr => first | (go_simp; done) | (go_simp; rfl)); intro gb185 hg w12 hbox hb; have n0_ := Aside0.mk (below_step (by repeat (first | (with_reducible first | exact HB.out | apply below_alloc | apply pw_below_drewN | apply below_drew1) | exact HB.out)) hb); have n1_ := Aside0.mk (hbox); have n2_ := Aside0.mk ((by rw [hg]; exact (below_size (by repeat (first | (with_reducible first | exact HB.out | apply below_alloc | apply pw_below_drewN | apply below_drew1) | exact HB.out))) : w.heap.size ≤ gb185)); have n3_ := Aside0.mk ((by rw [hg]; exact (below_size (by repeat (first | (with_reducible first | exact HB.out | apply below_alloc | apply pw_below_drewN | apply below_drew1) | exact HB.out))) : w.heap.size ≤ gb185)); clear HB; have HB := n0_; have BK185 := n1_; have GW185 := n2_; have GE185 := n3_; clear n0_ n1_ n2_ n3_; clear hb hbox hg) | ((with_reducible refine gate_dst (N := 3) rfl ?_); refine box_event ?hg (N := 3) ?hd (cs := #[.int .i64 a1_0, .int .i64 a1_1, .int .i64 a1_2, .bool a1_3]) (t := 38) ?hr ?_; (case hd => rfl); (case hg => rfl); (case hr => first | (go_simp; done) | (go_simp; rfl)); intro gb186 hg w13 hbox hb; have n0_ := Aside0.mk (blk_below (g := gb185) (o := .cells #[.int .i64 a0_0, .int .i64 a0_1, .int .i64 a0_2, .bool false] 38 (0, 0)) (by (with_reducible repeat (first | refine blk_drewN ?_ _ | refine blk_drew ?_ | refine blk_alloc ?_ _)); exact BK185.out) hb); have n1_ := Aside0.mk (below_step (by repeat (first | (with_reducible first | exact HB.out | apply below_alloc | apply pw_below_drewN | apply below_drew1 | refine below_set ?_ GE185.out) | exact HB.out)) hb); have n2_ := Aside0.mk (hbox); have n3_ := Aside0.mk ((by rw [hg]; exact (below_size (by repeat (first | (with_reducible first | exact HB.out | apply below_alloc | apply pw_below_drewN | apply below_drew1 | refine below_set ?_ GE185.out) | exact HB.out))) : w.heap.size ≤ gb186)); have n4_ := Aside0.mk ((by rw [hg]; exact (below_size (by repeat (first | (with_reducible first | exact HB.out | apply below_alloc | apply pw_below_drewN | apply below_drew1 | refine below_set ?_ GE185.out) | exact HB.out))) : w.heap.size ≤ gb186)); have n5_ := Aside0.mk ((by rw [hg]; exact Nat.ne_of_lt (blk_lt (g := gb185) (o := .cells #[.int .i64 a0_0, .int .i64 a0_1, .int .i64 a0_2, .bool false] 38 (0, 0)) (by (with_reducible repeat (first | refine blk_drewN ?_ _ | refine blk_drew ?_ | refine blk_alloc ?_ _)); exact BK185.out)) : gb185 ≠ gb186)); have n6_ := Aside0.mk ((by rw [hg]; exact Nat.ne_of_gt (blk_lt (g := gb185) (o := .cells #[.int .i64 a0_0, .int .i64 a0_1, .int .i64 a0_2, .bool false] 38 (0, 0)) (by (with_reducible repeat (first | refine blk_drewN ?_ _ | refine blk_drew ?_ | refine blk_alloc ?_ _)); exact BK185.out)) : gb186 ≠ gb185)); clear BK185; clear HB; have BK185 := n0_; have HB := n1_; have BK186 := n2_; have GW186 := n3_; have GE186 := n4_; have NB185_186 := n5_; have NB186_185 := n6_; clear n0_ n1_ n2_ n3_ n4_ n5_ n6_; clear hb hbox hg; have hnb14 := NB185_186.out; have hnc14 := NB186_185.out; have hcz15_0 : w13.cell? ⟨gb185, 0, none⟩ = some (.int .i64 a0_0) := (blk_cell BK185.out 0).trans rfl; have hcz15_1 : w13.cell? ⟨gb185, 1, none⟩ = some (.int .i64 a0_1) := (blk_cell BK185.out 1).trans rfl; have hcz15_2 : w13.cell? ⟨gb185, 2, none⟩ = some (.int .i64 a0_2) := (blk_cell BK185.out 2).trans rfl; have hcz15_3 : w13.cell? ⟨gb185, 3, none⟩ = some (.bool false) := (blk_cell BK185.out 3).trans rfl; have hfz15_0 := blk_frozen BK185.out 0; have hfz15_1 := blk_frozen BK185.out 1; have hfz15_2 := blk_frozen BK185.out 2; have hfz15_3 := blk_frozen BK185.out 3; have hcz16_0 : w13.cell? ⟨gb186, 0, none⟩ = some (.int .i64 a1_0) := (blk_cell BK186.out 0).trans rfl; have hcz16_1 : w13.cell? ⟨gb186, 1, none⟩ = some (.int .i64 a1_1) := (blk_cell BK186.out 1).trans rfl; have hcz16_2 : w13.cell? ⟨gb186, 2, none⟩ = some (.int .i64 a1_2) := (blk_cell BK186.out 2).trans rfl; have hcz16_3 : w13.cell? ⟨gb186, 3, none⟩ = some (.bool a1_3) := (blk_cell BK186.out 3).trans rfl; have hfz16_0 := blk_frozen BK186.out 0; have hfz16_1 := blk_frozen BK186.out 1; have hfz16_2 := blk_frozen BK186.out 2; have hfz16_3 := blk_frozen BK186.out 3))
          go_ret
          exact ⟨by first | rfl | (simp [errW_none, errW_some] <;> rfl) | (simp [*, errW_none, errW_some] <;> rfl) | (simp [*, errW_none, errW_some]; generalize ByteArray.toList _ = q_; cases q_ <;> rfl), by repeat (first | (with_reducible first | exact HB.out | apply below_alloc | apply pw_below_drewN | apply below_drew1 | refine below_set ?_ GE185.out | refine below_set ?_ GE186.out) | exact HB.out)⟩
      · rw [if_neg c5] at H
        have c5b0 : (a0_1 == a1_1) = false := beq_eq_false_iff_ne.mpr c5
        have c5b1 : (a0_1 != a1_1) = true := bne_iff_ne.mpr c5
        obtain rfl := Option.some.inj H
        go_enter Try.func30, Try.ntmps30
        go_wp2_with (first | ((with_reducible refine gate_dst (N := 2) rfl ?_); refine box_event ?hg (N := 2) ?hd (cs := #[.int .i64 a0_0, .int .i64 a0_1, .int .i64 a0_2, .bool a0_3]) (t := 38) ?hr ?_; (case hd => rfl); (case hg => rfl); (case hr => first | (go_simp; done) | (go_simp; rfl)); intro gb185 hg w17 hbox hb; have n0_ := Aside0.mk (below_step (by repeat (first | (with_reducible first | exact HB.out | apply below_alloc | apply pw_below_drewN | apply below_drew1) | exact HB.out)) hb); have n1_ := Aside0.mk (hbox); have n2_ := Aside0.mk ((by rw [hg]; exact (below_size (by repeat (first | (with_reducible first | exact HB.out | apply below_alloc | apply pw_below_drewN | apply below_drew1) | exact HB.out))) : w.heap.size ≤ gb185)); have n3_ := Aside0.mk ((by rw [hg]; exact (below_size (by repeat (first | (with_reducible first | exact HB.out | apply below_alloc | apply pw_below_drewN | apply below_drew1) | exact HB.out))) : w.heap.size ≤ gb185)); clear HB; have HB := n0_; have BK185 := n1_; have GW185 := n2_; have GE185 := n3_; clear n0_ n1_ n2_ n3_; clear hb hbox hg) | ((with_reducible refine gate_dst (N := 3) rfl ?_); refine box_event ?hg (N := 3) ?hd (cs := #[.int .i64 a1_0, .int .i64 a1_1, .int .i64 a1_2, .bool a1_3]) (t := 38) ?hr ?_; (case hd => rfl); (case hg => rfl); (case hr => first | (go_simp; done) | (go_simp; rfl)); intro gb186 hg w18 hbox hb; have n0_ := Aside0.mk (blk_below (g := gb185) (o := .cells #[.int .i64 a0_0, .int .i64 a0_1, .int .i64 a0_2, .bool a0_3] 38 (0, 0)) (by (with_reducible repeat (first | refine blk_drewN ?_ _ | refine blk_drew ?_ | refine blk_alloc ?_ _)); exact BK185.out) hb); have n1_ := Aside0.mk (below_step (by repeat (first | (with_reducible first | exact HB.out | apply below_alloc | apply pw_below_drewN | apply below_drew1 | refine below_set ?_ GE185.out) | exact HB.out)) hb); have n2_ := Aside0.mk (hbox); have n3_ := Aside0.mk ((by rw [hg]; exact (below_size (by repeat (first | (with_reducible first | exact HB.out | apply below_alloc | apply pw_below_drewN | apply below_drew1 | refine below_set ?_ GE185.out) | exact HB.out))) : w.heap.size ≤ gb186)); have n4_ := Aside0.mk ((by rw [hg]; exact (below_size (by repeat (first | (with_reducible first | exact HB.out | apply below_alloc | apply pw_below_drewN | apply below_drew1 | refine below_set ?_ GE185.out) | exact HB.out))) : w.heap.size ≤ gb186)); have n5_ := Aside0.mk ((by rw [hg]; exact Nat.ne_of_lt (blk_lt (g := gb185) (o := .cells #[.int .i64 a0_0, .int .i64 a0_1, .int .i64 a0_2, .bool a0_3] 38 (0, 0)) (by (with_reducible repeat (first | refine blk_drewN ?_ _ | refine blk_drew ?_ | refine blk_alloc ?_ _)); exact BK185.out)) : gb185 ≠ gb186)); have n6_ := Aside0.mk ((by rw [hg]; exact Nat.ne_of_gt (blk_lt (g := gb185) (o := .cells #[.int .i64 a0_0, .int .i64 a0_1, .int .i64 a0_2, .bool a0_3] 38 (0, 0)) (by (with_reducible repeat (first | refine blk_drewN ?_ _ | refine blk_drew ?_ | refine blk_alloc ?_ _)); exact BK185.out)) : gb186 ≠ gb185)); clear BK185; clear HB; have BK185 := n0_; have HB := n1_; have BK186 := n2_; have GW186 := n3_; have GE186 := n4_; have NB185_186 := n5_; have NB186_185 := n6_; clear n0_ n1_ n2_ n3_ n4_ n5_ n6_; clear hb hbox hg; have hnb19 := NB185_186.out; have hnc19 := NB186_185.out; have hcz20_0 : w18.cell? ⟨gb185, 0, none⟩ = some (.int .i64 a0_0) := (blk_cell BK185.out 0).trans rfl; have hcz20_1 : w18.cell? ⟨gb185, 1, none⟩ = some (.int .i64 a0_1) := (blk_cell BK185.out 1).trans rfl; have hcz20_2 : w18.cell? ⟨gb185, 2, none⟩ = some (.int .i64 a0_2) := (blk_cell BK185.out 2).trans rfl; have hcz20_3 : w18.cell? ⟨gb185, 3, none⟩ = some (.bool a0_3) := (blk_cell BK185.out 3).trans rfl; have hfz20_0 := blk_frozen BK185.out 0; have hfz20_1 := blk_frozen BK185.out 1; have hfz20_2 := blk_frozen BK185.out 2; have hfz20_3 := blk_frozen BK185.out 3; have hcz21_0 : w18.cell? ⟨gb186, 0, none⟩ = some (.int .i64 a1_0) := (blk_cell BK186.out 0).trans rfl; have hcz21_1 : w18.cell? ⟨gb186, 1, none⟩ = some (.int .i64 a1_1) := (blk_cell BK186.out 1).trans rfl; have hcz21_2 : w18.cell? ⟨gb186, 2, none⟩ = some (.int .i64 a1_2) := (blk_cell BK186.out 2).trans rfl; have hcz21_3 : w18.cell? ⟨gb186, 3, none⟩ = some (.bool a1_3) := (blk_cell BK186.out 3).trans rfl; have hfz21_0 := blk_frozen BK186.out 0; have hfz21_1 := blk_frozen BK186.out 1; have hfz21_2 := blk_frozen BK186.out 2; have hfz21_3 := blk_frozen BK186.out 3))
        go_ret
        exact ⟨by first | rfl | (simp [errW_none, errW_some] <;> rfl) | (simp [*, errW_none, errW_some] <;> rfl) | (simp [*, errW_none, errW_some]; generalize ByteArray.toList _ = q_; cases q_ <;> rfl), by repeat (first | (with_reducible first | exact HB.out | apply below_alloc | apply pw_below_drewN | apply below_drew1 | refine below_set ?_ GE185.out | refine below_set ?_ GE186.out) | exact HB.out)⟩
    · rw [if_neg c4] at H
      have c4b0 : (a0_0 == a1_0) = false := beq_eq_false_iff_ne.mpr c4
      have c4b1 : (a0_0 != a1_0) = true := bne_iff_ne.mpr c4
      obtain rfl := Option.some.inj H
      go_enter Try.func30, Try.ntmps30
      go_wp2_with (first | ((with_reducible refine gate_dst (N := 2) rfl ?_); refine box_event ?hg (N := 2) ?hd (cs := #[.int .i64 a0_0, .int .i64 a0_1, .int .i64 a0_2, .bool a0_3]) (t := 38) ?hr ?_; (case hd => rfl); (case hg => rfl); (case hr => first | (go_simp; done) | (go_simp; rfl)); intro gb185 hg w22 hbox hb; have n0_ := Aside0.mk (below_step (by repeat (first | (with_reducible first | exact HB.out | apply below_alloc | apply pw_below_drewN | apply below_drew1) | exact HB.out)) hb); have n1_ := Aside0.mk (hbox); have n2_ := Aside0.mk ((by rw [hg]; exact (below_size (by repeat (first | (with_reducible first | exact HB.out | apply below_alloc | apply pw_below_drewN | apply below_drew1) | exact HB.out))) : w.heap.size ≤ gb185)); have n3_ := Aside0.mk ((by rw [hg]; exact (below_size (by repeat (first | (with_reducible first | exact HB.out | apply below_alloc | apply pw_below_drewN | apply below_drew1) | exact HB.out))) : w.heap.size ≤ gb185)); clear HB; have HB := n0_; have BK185 := n1_; have GW185 := n2_; have GE185 := n3_; clear n0_ n1_ n2_ n3_; clear hb hbox hg) | ((with_reducible refine gate_dst (N := 3) rfl ?_); refine box_event ?hg (N := 3) ?hd (cs := #[.int .i64 a1_0, .int .i64 a1_1, .int .i64 a1_2, .bool a1_3]) (t := 38) ?hr ?_; (case hd => rfl); (case hg => rfl); (case hr => first | (go_simp; done) | (go_simp; rfl)); intro gb186 hg w23 hbox hb; have n0_ := Aside0.mk (blk_below (g := gb185) (o := .cells #[.int .i64 a0_0, .int .i64 a0_1, .int .i64 a0_2, .bool a0_3] 38 (0, 0)) (by (with_reducible repeat (first | refine blk_drewN ?_ _ | refine blk_drew ?_ | refine blk_alloc ?_ _)); exact BK185.out) hb); have n1_ := Aside0.mk (below_step (by repeat (first | (with_reducible first | exact HB.out | apply below_alloc | apply pw_below_drewN | apply below_drew1 | refine below_set ?_ GE185.out) | exact HB.out)) hb); have n2_ := Aside0.mk (hbox); have n3_ := Aside0.mk ((by rw [hg]; exact (below_size (by repeat (first | (with_reducible first | exact HB.out | apply below_alloc | apply pw_below_drewN | apply below_drew1 | refine below_set ?_ GE185.out) | exact HB.out))) : w.heap.size ≤ gb186)); have n4_ := Aside0.mk ((by rw [hg]; exact (below_size (by repeat (first | (with_reducible first | exact HB.out | apply below_alloc | apply pw_below_drewN | apply below_drew1 | refine below_set ?_ GE185.out) | exact HB.out))) : w.heap.size ≤ gb186)); have n5_ := Aside0.mk ((by rw [hg]; exact Nat.ne_of_lt (blk_lt (g := gb185) (o := .cells #[.int .i64 a0_0, .int .i64 a0_1, .int .i64 a0_2, .bool a0_3] 38 (0, 0)) (by (with_reducible repeat (first | refine blk_drewN ?_ _ | refine blk_drew ?_ | refine blk_alloc ?_ _)); exact BK185.out)) : gb185 ≠ gb186)); have n6_ := Aside0.mk ((by rw [hg]; exact Nat.ne_of_gt (blk_lt (g := gb185) (o := .cells #[.int .i64 a0_0, .int .i64 a0_1, .int .i64 a0_2, .bool a0_3] 38 (0, 0)) (by (with_reducible repeat (first | refine blk_drewN ?_ _ | refine blk_drew ?_ | refine blk_alloc ?_ _)); exact BK185.out)) : gb186 ≠ gb185)); clear BK185; clear HB; have BK185 := n0_; have HB := n1_; have BK186 := n2_; have GW186 := n3_; have GE186 := n4_; have NB185_186 := n5_; have NB186_185 := n6_; clear n0_ n1_ n2_ n3_ n4_ n5_ n6_; clear hb hbox hg; have hnb24 := NB185_186.out; have hnc24 := NB186_185.out; have hcz25_0 : w23.cell? ⟨gb185, 0, none⟩ = some (.int .i64 a0_0) := (blk_cell BK185.out 0).trans rfl; have hcz25_1 : w23.cell? ⟨gb185, 1, none⟩ = some (.int .i64 a0_1) := (blk_cell BK185.out 1).trans rfl; have hcz25_2 : w23.cell? ⟨gb185, 2, none⟩ = some (.int .i64 a0_2) := (blk_cell BK185.out 2).trans rfl; have hcz25_3 : w23.cell? ⟨gb185, 3, none⟩ = some (.bool a0_3) := (blk_cell BK185.out 3).trans rfl; have hfz25_0 := blk_frozen BK185.out 0; have hfz25_1 := blk_frozen BK185.out 1; have hfz25_2 := blk_frozen BK185.out 2; have hfz25_3 := blk_frozen BK185.out 3; have hcz26_0 : w23.cell? ⟨gb186, 0, none⟩ = some (.int .i64 a1_0) := (blk_cell BK186.out 0).trans rfl; have hcz26_1 : w23.cell? ⟨gb186, 1, none⟩ = some (.int .i64 a1_1) := (blk_cell BK186.out 1).trans rfl; have hcz26_2 : w23.cell? ⟨gb186, 2, none⟩ = some (.int .i64 a1_2) := (blk_cell BK186.out 2).trans rfl; have hcz26_3 : w23.cell? ⟨gb186, 3, none⟩ = some (.bool a1_3) := (blk_cell BK186.out 3).trans rfl; have hfz26_0 := blk_frozen BK186.out 0; have hfz26_1 := blk_frozen BK186.out 1; have hfz26_2 := blk_frozen BK186.out 2; have hfz26_3 := blk_frozen BK186.out 3))
      go_ret
      exact ⟨by first | rfl | (simp [errW_none, errW_some] <;> rfl) | (simp [*, errW_none, errW_some] <;> rfl) | (simp [*, errW_none, errW_some]; generalize ByteArray.toList _ = q_; cases q_ <;> rfl), by repeat (first | (with_reducible first | exact HB.out | apply below_alloc | apply pw_below_drewN | apply below_drew1 | refine below_set ?_ GE185.out | refine below_set ?_ GE186.out) | exact HB.out)⟩
  · rw [if_neg c3] at H
    have c3b0 : (a0_2 == a1_2) = false := beq_eq_false_iff_ne.mpr c3
    have c3b1 : (a0_2 != a1_2) = true := bne_iff_ne.mpr c3
    obtain rfl := Option.some.inj H
    go_enter Try.func30, Try.ntmps30
    go_wp2_with (first | ((with_reducible refine gate_dst (N := 2) rfl ?_); refine box_event ?hg (N := 2) ?hd (cs := #[.int .i64 a0_0, .int .i64 a0_1, .int .i64 a0_2, .bool a0_3]) (t := 38) ?hr ?_; (case hd => rfl); (case hg => rfl); (case hr => first | (go_simp; done) | (go_simp; rfl)); intro gb185 hg w27 hbox hb; have n0_ := Aside0.mk (below_step (by repeat (first | (with_reducible first | exact HB.out | apply below_alloc | apply pw_below_drewN | apply below_drew1) | exact HB.out)) hb); have n1_ := Aside0.mk (hbox); have n2_ := Aside0.mk ((by rw [hg]; exact (below_size (by repeat (first | (with_reducible first | exact HB.out | apply below_alloc | apply pw_below_drewN | apply below_drew1) | exact HB.out))) : w.heap.size ≤ gb185)); have n3_ := Aside0.mk ((by rw [hg]; exact (below_size (by repeat (first | (with_reducible first | exact HB.out | apply below_alloc | apply pw_below_drewN | apply below_drew1) | exact HB.out))) : w.heap.size ≤ gb185)); clear HB; have HB := n0_; have BK185 := n1_; have GW185 := n2_; have GE185 := n3_; clear n0_ n1_ n2_ n3_; clear hb hbox hg) | ((with_reducible refine gate_dst (N := 3) rfl ?_); refine box_event ?hg (N := 3) ?hd (cs := #[.int .i64 a1_0, .int .i64 a1_1, .int .i64 a1_2, .bool a1_3]) (t := 38) ?hr ?_; (case hd => rfl); (case hg => rfl); (case hr => first | (go_simp; done) | (go_simp; rfl)); intro gb186 hg w28 hbox hb; have n0_ := Aside0.mk (blk_below (g := gb185) (o := .cells #[.int .i64 a0_0, .int .i64 a0_1, .int .i64 a0_2, .bool a0_3] 38 (0, 0)) (by (with_reducible repeat (first | refine blk_drewN ?_ _ | refine blk_drew ?_ | refine blk_alloc ?_ _)); exact BK185.out) hb); have n1_ := Aside0.mk (below_step (by repeat (first | (with_reducible first | exact HB.out | apply below_alloc | apply pw_below_drewN | apply below_drew1 | refine below_set ?_ GE185.out) | exact HB.out)) hb); have n2_ := Aside0.mk (hbox); have n3_ := Aside0.mk ((by rw [hg]; exact (below_size (by repeat (first | (with_reducible first | exact HB.out | apply below_alloc | apply pw_below_drewN | apply below_drew1 | refine below_set ?_ GE185.out) | exact HB.out))) : w.heap.size ≤ gb186)); have n4_ := Aside0.mk ((by rw [hg]; exact (below_size (by repeat (first | (with_reducible first | exact HB.out | apply below_alloc | apply pw_below_drewN | apply below_drew1 | refine below_set ?_ GE185.out) | exact HB.out))) : w.heap.size ≤ gb186)); have n5_ := Aside0.mk ((by rw [hg]; exact Nat.ne_of_lt (blk_lt (g := gb185) (o := .cells #[.int .i64 a0_0, .int .i64 a0_1, .int .i64 a0_2, .bool a0_3] 38 (0, 0)) (by (with_reducible repeat (first | refine blk_drewN ?_ _ | refine blk_drew ?_ | refine blk_alloc ?_ _)); exact BK185.out)) : gb185 ≠ gb186)); have n6_ := Aside0.mk ((by rw [hg]; exact Nat.ne_of_gt (blk_lt (g := gb185) (o := .cells #[.int .i64 a0_0, .int .i64 a0_1, .int .i64 a0_2, .bool a0_3] 38 (0, 0)) (by (with_reducible repeat (first | refine blk_drewN ?_ _ | refine blk_drew ?_ | refine blk_alloc ?_ _)); exact BK185.out)) : gb186 ≠ gb185)); clear BK185; clear HB; have BK185 := n0_; have HB := n1_; have BK186 := n2_; have GW186 := n3_; have GE186 := n4_; have NB185_186 := n5_; have NB186_185 := n6_; clear n0_ n1_ n2_ n3_ n4_ n5_ n6_; clear hb hbox hg; have hnb29 := NB185_186.out; have hnc29 := NB186_185.out; have hcz30_0 : w28.cell? ⟨gb185, 0, none⟩ = some (.int .i64 a0_0) := (blk_cell BK185.out 0).trans rfl; have hcz30_1 : w28.cell? ⟨gb185, 1, none⟩ = some (.int .i64 a0_1) := (blk_cell BK185.out 1).trans rfl; have hcz30_2 : w28.cell? ⟨gb185, 2, none⟩ = some (.int .i64 a0_2) := (blk_cell BK185.out 2).trans rfl; have hcz30_3 : w28.cell? ⟨gb185, 3, none⟩ = some (.bool a0_3) := (blk_cell BK185.out 3).trans rfl; have hfz30_0 := blk_frozen BK185.out 0; have hfz30_1 := blk_frozen BK185.out 1; have hfz30_2 := blk_frozen BK185.out 2; have hfz30_3 := blk_frozen BK185.out 3; have hcz31_0 : w28.cell? ⟨gb186, 0, none⟩ = some (.int .i64 a1_0) := (blk_cell BK186.out 0).trans rfl; have hcz31_1 : w28.cell? ⟨gb186, 1, none⟩ = some (.int .i64 a1_1) := (blk_cell BK186.out 1).trans rfl; have hcz31_2 : w28.cell? ⟨gb186, 2, none⟩ = some (.int .i64 a1_2) := (blk_cell BK186.out 2).trans rfl; have hcz31_3 : w28.cell? ⟨gb186, 3, none⟩ = some (.bool a1_3) := (blk_cell BK186.out 3).trans rfl; have hfz31_0 := blk_frozen BK186.out 0; have hfz31_1 := blk_frozen BK186.out 1; have hfz31_2 := blk_frozen BK186.out 2; have hfz31_3 := blk_frozen BK186.out 3))
    go_ret
    exact ⟨by first | rfl | (simp [errW_none, errW_some] <;> rfl) | (simp [*, errW_none, errW_some] <;> rfl) | (simp [*, errW_none, errW_some]; generalize ByteArray.toList _ = q_; cases q_ <;> rfl), by repeat (first | (with_reducible first | exact HB.out | apply below_alloc | apply pw_below_drewN | apply below_drew1 | refine below_set ?_ GE185.out | refine below_set ?_ GE186.out) | exact HB.out)⟩

end Go.Proofs.Ytmoeodcmfjnihab.Pa
