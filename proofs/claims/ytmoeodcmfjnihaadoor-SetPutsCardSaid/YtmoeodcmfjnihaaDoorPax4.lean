-- Printed by a program of this session: the kit's printer, with contracts of this session's own among its functions.
import Derived.Test.YtmoeodcmfjnihaaDoorPax0
import Derived.Test.YtmoeodcmfjnihaaDoorPax2
import Derived.Test.YtmoeodcmfjnihaaDoorPax3
namespace Go.Proofs.YtmoeodcmfjnihaaDoor.Pa
open Go.RowKit Go.Proofs.YtmoeodcmfjnihaaDoorW.PrintWords Go.Proofs.YtmoeodcmfjnihaaDoorW.PrintLast Go.Proofs.YtmoeodcmfjnihaaDoorW.PrintMore
attribute [local go_sem] max2_int min2_int max_two min_two max_three min_three max_four min_four   -- for this text's walks alone
set_option linter.unusedVariables false
set_option linter.unusedSimpArgs false

/-! ### kakugyolaw01_SetPuts: function 3 -/
def kakugyolaw01_SetPuts.bv (l : List Bool) : Array Value := (l.map Value.bool).toArray
theorem kakugyolaw01_SetPuts.bv_size (l : List Bool) : (kakugyolaw01_SetPuts.bv l).size = l.length := by simp [kakugyolaw01_SetPuts.bv]
theorem kakugyolaw01_SetPuts.bv_one (l : List Bool) : (kakugyolaw01_SetPuts.bv l).all (·.oneCell') = true := all_oneCell_toArray (fun v hv => by
  obtain ⟨b, _, rfl⟩ := List.mem_map.1 hv
  rfl)
theorem kakugyolaw01_SetPuts.bv_get (l : List Bool) (i : Nat) (h : i < l.length) : (kakugyolaw01_SetPuts.bv l)[i]? = some (.bool (l.getD i false)) := by
  simp [kakugyolaw01_SetPuts.bv, List.getD_eq_getElem?_getD, List.getElem?_eq_getElem h]
theorem kakugyolaw01_SetPuts.bv_set (l : List Bool) (i : Nat) (b : Bool) : (kakugyolaw01_SetPuts.bv l).setIfInBounds i (.bool b) = kakugyolaw01_SetPuts.bv (l.set i b) := by
  simp [kakugyolaw01_SetPuts.bv, List.map_set]
theorem kakugyolaw01_SetPuts.info : (Tryd.prog.info? 29).map (·.size) = some 81 := by kernel_rfl
theorem kakugyolaw01_SetPuts.rng {W : World} {g : Nat} {C : Array Value} (h : W.heap[g]? = some (.cells C 29 (0, 0))) : W.rangeAt g 0 C.toList := fun j v hj => by
  rw [Nat.zero_add, blk_cell h j]
  simpa using hj
theorem kakugyolaw01_SetPuts.thr {W : World} {g : Nat} {C : Array Value} (h : W.heap[g]? = some (.cells C 29 (0, 0))) (n : Nat) (hn : n ≤ C.size) : W.there g 0 n := fun j hj => by
  rw [Nat.zero_add, blk_cell h j]
  exact ⟨by simp [show j < C.size by omega], blk_frozen h j⟩
section
variable {ops : Array Oper} {rest : List Oper} {o : Oper} {a : Act} {Q : Exit → Act → World → Prop} {W : World} {K : Act → World → Prop}
/-- A whole set is loaded. -/
theorem kakugyolaw01_SetPuts.wp_load (x : Operand) (ho : o.op = .load 29 x) {g : Nat} {l : List Bool} (hx : a.eval x = .pointer (some ⟨g, 0, none⟩)) (hb : W.heap[g]? = some (.cells (kakugyolaw01_SetPuts.bv l) 29 (0, 0))) (hl : l.length = 81)
    (h : K (a.put o.dst (.agg (kakugyolaw01_SetPuts.bv l))) W) : Oper.wp Tryd.prog o a W K Q :=
  wp_load_mid _ x ho g 0 hx (l.map Value.bool) _ (by have := kakugyolaw01_SetPuts.rng hb; simpa [kakugyolaw01_SetPuts.bv] using this) Tryd.underlying29 rfl (by rw [kakugyolaw01_SetPuts.info, List.length_map, hl]) h
theorem kakugyolaw01_SetPuts.load (hgd : o.guard = none) (x : Operand) (ho : o.op = .load 29 x) {g : Nat} {l : List Bool} (hx : a.eval x = .pointer (some ⟨g, 0, none⟩)) (hb : W.heap[g]? = some (.cells (kakugyolaw01_SetPuts.bv l) 29 (0, 0))) (hl : l.length = 81)
    (h : wpList Tryd.prog ops Q rest (a.put o.dst (.agg (kakugyolaw01_SetPuts.bv l))) W) : wpList Tryd.prog ops Q (o :: rest) a W :=
  wpList_plain hgd fun _ hK => kakugyolaw01_SetPuts.wp_load x ho hx hb hl (hK _ _ h)
/-- A whole set is stored. -/
theorem kakugyolaw01_SetPuts.wp_store (x y : Operand) (ho : o.op = .store 29 x y) {g : Nat} {l : List Bool} {C : Array Value} (hx : a.eval x = .pointer (some ⟨g, 0, none⟩)) (hy : a.eval y = .agg (kakugyolaw01_SetPuts.bv l)) (hb : W.heap[g]? = some (.cells C 29 (0, 0))) (hC : C.size = 81) (hl : l.length = 81)
    (h : ∀ W', W'.heap[g]? = some (.cells (kakugyolaw01_SetPuts.bv l) 29 (0, 0)) → (∀ B w0, B ≤ g → Below B w0 W → Below B w0 W') → (∀ k, k ≠ g → W'.heap[k]? = W.heap[k]?) → W'.heap.size = W.heap.size → K (a.put o.dst undef) W') : Oper.wp Tryd.prog o a W K Q := by
  have hsz : (kakugyolaw01_SetPuts.bv l).size = 81 := by rw [kakugyolaw01_SetPuts.bv_size, hl]
  refine wp_store_mid _ x y ho g 0 (kakugyolaw01_SetPuts.bv l) hx hy (kakugyolaw01_SetPuts.thr hb _ (by omega)) (by rw [kakugyolaw01_SetPuts.info, hsz]) (kakugyolaw01_SetPuts.bv_one l) ?_
  obtain ⟨cur', h1, h2, h3⟩ := setCells_row (kakugyolaw01_SetPuts.bv l).toList 0 W C hb (by rw [Array.length_toList]; omega)
  have e : cur' = kakugyolaw01_SetPuts.bv l := by
    apply Array.toList_inj.1
    rw [h3]
    simp only [List.take_zero, List.nil_append, Nat.zero_add]
    rw [List.drop_of_length_le (by rw [Array.length_toList, Array.length_toList]; omega), List.append_nil]
  rw [e] at h1
  exact h _ h1 (fun B w0 hB hb0 => below_setCells hB _ 0 W hb0) (fun k hk => setCells_far _ 0 k hk) (setCells_same g _ 0 W).2.2.2
theorem kakugyolaw01_SetPuts.store (hgd : o.guard = none) (x y : Operand) (ho : o.op = .store 29 x y) {g : Nat} {l : List Bool} {C : Array Value} (hx : a.eval x = .pointer (some ⟨g, 0, none⟩)) (hy : a.eval y = .agg (kakugyolaw01_SetPuts.bv l)) (hb : W.heap[g]? = some (.cells C 29 (0, 0))) (hC : C.size = 81) (hl : l.length = 81)
    (h : ∀ W', W'.heap[g]? = some (.cells (kakugyolaw01_SetPuts.bv l) 29 (0, 0)) → (∀ B w0, B ≤ g → Below B w0 W → Below B w0 W') → (∀ k, k ≠ g → W'.heap[k]? = W.heap[k]?) → W'.heap.size = W.heap.size → wpList Tryd.prog ops Q rest (a.put o.dst undef) W') : wpList Tryd.prog ops Q (o :: rest) a W :=
  wpList_plain hgd fun _ hK => kakugyolaw01_SetPuts.wp_store x y ho hx hy hb hC hl (fun W' a b c d => hK _ _ (h W' a b c d))
end
def kakugyolaw01_SetPuts.zl : List Bool := List.replicate 81 false
theorem kakugyolaw01_SetPuts.zl_len : kakugyolaw01_SetPuts.zl.length = 81 := by decide
theorem kakugyolaw01_SetPuts.zero (w : World) : (zeroValue 29).run Tryd.prog w = .ok (.agg (kakugyolaw01_SetPuts.bv kakugyolaw01_SetPuts.zl)) w := by
  have h : (Tryd.prog.info? 29).map (·.zero) = some (some (.agg (kakugyolaw01_SetPuts.bv kakugyolaw01_SetPuts.zl))) := by kernel_rfl
  cases hq : Tryd.prog.info? 29 with
  | none => rw [hq] at h; cases h
  | some i =>
    rw [hq] at h
    have hz : i.zero = some (.agg (kakugyolaw01_SetPuts.bv kakugyolaw01_SetPuts.zl)) := by simpa using h
    simp [zeroValue, typeInfo, Sem.run, hq, hz]
def kakugyolaw01_SetPuts.putL (l : List Bool) (q : Int) (b : Bool) : List Bool := if 0 ≤ q ∧ q < 81 then l.set q.toNat b else l
theorem kakugyolaw01_SetPuts.putL_len (l : List Bool) (q : Int) (b : Bool) : (kakugyolaw01_SetPuts.putL l q b).length = l.length := by
  unfold kakugyolaw01_SetPuts.putL
  split <;> simp
set_option maxRecDepth 100000 in
set_option maxHeartbeats 2000000 in
theorem kakugyolaw01_SetPuts.put_calls (l : List Bool) (q : Int) (b : Bool) (w : World) (hl : l.length = 81) :
    Calls Tryd.prog 9 #[.agg (kakugyolaw01_SetPuts.bv l), .int .i64 q, .bool b] w fun e w' => e = .returned (.agg (kakugyolaw01_SetPuts.bv (kakugyolaw01_SetPuts.putL l q b))) ∧ Below w.heap.size w w' := by
  have hz := kakugyolaw01_SetPuts.zero
  have hlz := kakugyolaw01_SetPuts.zl_len
  obtain ⟨m, hm⟩ : ∃ m, m = kakugyolaw01_SetPuts.putL l q b := ⟨_, rfl⟩
  have hml : m.length = 81 := by rw [hm, kakugyolaw01_SetPuts.putL_len, hl]
  rw [← hm]
  have HM := Aside0.mk hm
  clear hm
  go_enter Tryd.func9, Tryd.ntmps9
  go_upto_region 1 with (fail)
  have BK3 : ((w.alloc (Obj.cells (kakugyolaw01_SetPuts.bv l) 29)).alloc (Obj.cells (kakugyolaw01_SetPuts.bv kakugyolaw01_SetPuts.zl) 29)).heap[w.heap.size]? = some (.cells (kakugyolaw01_SetPuts.bv l) 29 (0, 0)) := blk_alloc (blk_new w _) _
  have BK6 : ((w.alloc (Obj.cells (kakugyolaw01_SetPuts.bv l) 29)).alloc (Obj.cells (kakugyolaw01_SetPuts.bv kakugyolaw01_SetPuts.zl) 29)).heap[w.heap.size + 1]? = some (.cells (kakugyolaw01_SetPuts.bv kakugyolaw01_SetPuts.zl) 29 (0, 0)) := by
    have e := blk_new (w.alloc (Obj.cells (kakugyolaw01_SetPuts.bv l) 29)) (Obj.cells (kakugyolaw01_SetPuts.bv kakugyolaw01_SetPuts.zl) 29)
    have e2 : (w.alloc (Obj.cells (kakugyolaw01_SetPuts.bv l) 29)).heap.size = w.heap.size + 1 := by simp [go_sem]
    rw [e2] at e
    exact e
  have HB : Below w.heap.size w ((w.alloc (Obj.cells (kakugyolaw01_SetPuts.bv l) 29)).alloc (Obj.cells (kakugyolaw01_SetPuts.bv kakugyolaw01_SetPuts.zl) 29)) := below_alloc (below_alloc (Below.refl _ _) _) _
  generalize (w.alloc (Obj.cells (kakugyolaw01_SetPuts.bv l) 29)).alloc (Obj.cells (kakugyolaw01_SetPuts.bv kakugyolaw01_SetPuts.zl) 29) = W at *
  have K3 := Aside0.mk BK3
  have K6 := Aside0.mk BK6
  have KB := Aside0.mk HB
  clear BK3 BK6 HB
  by_cases h : 0 ≤ q ∧ q < 81
  · have e : m = l.set q.toNat b := by rw [HM.out]; unfold kakugyolaw01_SetPuts.putL; rw [if_pos h]
    have b0 : decide (0 ≤ q) = true := decide_eq_true h.1
    have b1 : decide (q < 81) = true := decide_eq_true h.2
    have b2 : (0 ≤ q ∧ q < 81) = True := eq_true h
    have hc : W.cell? ⟨w.heap.size, q.toNat, none⟩ = some (.bool (l.getD q.toNat false)) := (blk_cell K3.out _).trans (kakugyolaw01_SetPuts.bv_get l _ (by omega))
    have hf : W.frozen? ⟨w.heap.size, q.toNat, none⟩ = false := blk_frozen K3.out _
    obtain ⟨h0, h1⟩ := h
    replace h0 := eq_true h0
    replace h1 := eq_true h1
    have HE := Aside0.mk e
    clear e
    go_upto_region 3 with (fail)
    have BK3 := blk_set K3.out q.toNat (.bool b)
    rw [kakugyolaw01_SetPuts.bv_set, ← HE.out] at BK3
    have BK6 := blk_far K6.out (p := ⟨w.heap.size, q.toNat, none⟩) (by show w.heap.size + 1 ≠ w.heap.size; omega) (.bool b)
    have HB := (KB.out).setCell (p := ⟨w.heap.size, q.toNat, none⟩) (Nat.le_refl _) (.bool b)
    generalize W.setCell ⟨w.heap.size, q.toNat, none⟩ (.bool b) = W2 at *
    clear hc hf
    have J3 := Aside0.mk BK3
    have J6 := Aside0.mk BK6
    have JB := Aside0.mk HB
    clear BK3 BK6 HB K3 K6 KB HE
    go_wp2_with (first | ((with_reducible refine gate_dst (N := 16) rfl ?_); refine kakugyolaw01_SetPuts.load rfl (.tmp 3) rfl rfl J3.out hml ?_) | ((with_reducible refine gate_store (t := 29) (p := 6) (v := .tmp 16) rfl ?_); refine kakugyolaw01_SetPuts.store rfl (.tmp 6) (.tmp 16) rfl rfl rfl J6.out (by rw [kakugyolaw01_SetPuts.bv_size, hlz]) hml ?_; intro W3 s1 s2 s3 s4; have S1 := Aside0.mk s1; have S2 := Aside0.mk (s2 _ _ (Nat.le_succ _) JB.out); clear s1 s2 s3 s4))
    refine bodyPost_ret (results_cell_row (p := 6) (ty := 29) rfl _ _ (w.heap.size + 1) 29 (kakugyolaw01_SetPuts.bv m) (0, 0) _ rfl S1.out Tryd.underlying29 rfl (by rw [kakugyolaw01_SetPuts.info, kakugyolaw01_SetPuts.bv_size, hml])) rfl ?_
    exact ⟨rfl, S2.out⟩
  · have e : m = l := by rw [HM.out]; unfold kakugyolaw01_SetPuts.putL; rw [if_neg h]
    have BK3 := K3.out
    rw [← e] at BK3
    have J3 := Aside0.mk BK3
    have J6 := Aside0.mk K6.out
    have JB := Aside0.mk KB.out
    clear BK3 K3 K6 KB e
    by_cases h0 : 0 ≤ q
    · have b0 : decide (0 ≤ q) = true := decide_eq_true h0
      have b1 : decide (q < 81) = false := decide_eq_false (fun x => h ⟨h0, x⟩)
      clear h h0
      go_upto_region 3 with (fail)
      go_wp2_with (first | ((with_reducible refine gate_dst (N := 16) rfl ?_); refine kakugyolaw01_SetPuts.load rfl (.tmp 3) rfl rfl J3.out hml ?_) | ((with_reducible refine gate_store (t := 29) (p := 6) (v := .tmp 16) rfl ?_); refine kakugyolaw01_SetPuts.store rfl (.tmp 6) (.tmp 16) rfl rfl rfl J6.out (by rw [kakugyolaw01_SetPuts.bv_size, hlz]) hml ?_; intro W3 s1 s2 s3 s4; have S1 := Aside0.mk s1; have S2 := Aside0.mk (s2 _ _ (Nat.le_succ _) JB.out); clear s1 s2 s3 s4))
      refine bodyPost_ret (results_cell_row (p := 6) (ty := 29) rfl _ _ (w.heap.size + 1) 29 (kakugyolaw01_SetPuts.bv m) (0, 0) _ rfl S1.out Tryd.underlying29 rfl (by rw [kakugyolaw01_SetPuts.info, kakugyolaw01_SetPuts.bv_size, hml])) rfl ?_
      exact ⟨rfl, S2.out⟩
    · have b0 : decide (0 ≤ q) = false := decide_eq_false h0
      clear h h0
      go_upto_region 3 with (fail)
      go_wp2_with (first | ((with_reducible refine gate_dst (N := 16) rfl ?_); refine kakugyolaw01_SetPuts.load rfl (.tmp 3) rfl rfl J3.out hml ?_) | ((with_reducible refine gate_store (t := 29) (p := 6) (v := .tmp 16) rfl ?_); refine kakugyolaw01_SetPuts.store rfl (.tmp 6) (.tmp 16) rfl rfl rfl J6.out (by rw [kakugyolaw01_SetPuts.bv_size, hlz]) hml ?_; intro W3 s1 s2 s3 s4; have S1 := Aside0.mk s1; have S2 := Aside0.mk (s2 _ _ (Nat.le_succ _) JB.out); clear s1 s2 s3 s4))
      refine bodyPost_ret (results_cell_row (p := 6) (ty := 29) rfl _ _ (w.heap.size + 1) 29 (kakugyolaw01_SetPuts.bv m) (0, 0) _ rfl S1.out Tryd.underlying29 rfl (by rw [kakugyolaw01_SetPuts.info, kakugyolaw01_SetPuts.bv_size, hml])) rfl ?_
      exact ⟨rfl, S2.out⟩
/-- Of(lo, hi): the bits as a row. -/
def kakugyolaw01_SetPuts.bitOf (lo hi : Int) (q : Nat) : Bool := if q < 63 then (lo / 2 ^ q).tmod 2 == 1 else (hi / 2 ^ (q - 63)).tmod 2 == 1
def kakugyolaw01_SetPuts.rowTo (lo hi : Int) (n : Nat) : List Bool := (List.range 81).map fun q => if q < n then kakugyolaw01_SetPuts.bitOf lo hi q else false
theorem kakugyolaw01_SetPuts.rowTo_len (lo hi : Int) (n : Nat) : (kakugyolaw01_SetPuts.rowTo lo hi n).length = 81 := by simp [kakugyolaw01_SetPuts.rowTo]
theorem kakugyolaw01_SetPuts.rowTo_zero (lo hi : Int) : kakugyolaw01_SetPuts.rowTo lo hi 0 = kakugyolaw01_SetPuts.zl := by
  unfold kakugyolaw01_SetPuts.rowTo kakugyolaw01_SetPuts.zl
  simp
  decide
theorem kakugyolaw01_SetPuts.rowTo_set (lo hi : Int) (n : Nat) (h : n < 81) : (kakugyolaw01_SetPuts.rowTo lo hi n).set n (kakugyolaw01_SetPuts.bitOf lo hi n) = kakugyolaw01_SetPuts.rowTo lo hi (n + 1) := by
  apply List.ext_getElem (by simp [kakugyolaw01_SetPuts.rowTo])
  intro i h1 h2
  rw [List.getElem_set]
  simp only [kakugyolaw01_SetPuts.rowTo, List.getElem_map, List.getElem_range]
  by_cases e : n = i
  · subst e; simp
  · rw [if_neg e]
    by_cases hi' : i < n
    · rw [if_pos hi', if_pos (by omega)]
    · rw [if_neg hi', if_neg (by omega)]
set_option maxRecDepth 100000 in
set_option maxHeartbeats 4000000 in
theorem kakugyolaw01_SetPuts.of_calls (lo hi : Int) (w : World) :
    Calls Tryd.prog 29 #[.int .u64 lo, .int .u64 hi] w fun e w' => e = .returned (.agg (kakugyolaw01_SetPuts.bv (kakugyolaw01_SetPuts.rowTo lo hi 81))) ∧ Below w.heap.size w w' := by
  have hz := kakugyolaw01_SetPuts.zero
  have hlz := kakugyolaw01_SetPuts.zl_len
  have hsz : (kakugyolaw01_SetPuts.bv kakugyolaw01_SetPuts.zl).size = 81 := by rw [kakugyolaw01_SetPuts.bv_size, hlz]
  have HZ := Aside0.mk hsz
  have HL := Aside0.mk hlz
  have BK4 : ((w.alloc (Obj.cells (kakugyolaw01_SetPuts.bv kakugyolaw01_SetPuts.zl) 29)).alloc (Obj.cells (kakugyolaw01_SetPuts.bv kakugyolaw01_SetPuts.zl) 29)).heap[w.heap.size]? = some (.cells (kakugyolaw01_SetPuts.bv kakugyolaw01_SetPuts.zl) 29 (0, 0)) := blk_alloc (blk_new w _) _
  have BK5 : ((w.alloc (Obj.cells (kakugyolaw01_SetPuts.bv kakugyolaw01_SetPuts.zl) 29)).alloc (Obj.cells (kakugyolaw01_SetPuts.bv kakugyolaw01_SetPuts.zl) 29)).heap[w.heap.size + 1]? = some (.cells (kakugyolaw01_SetPuts.bv kakugyolaw01_SetPuts.zl) 29 (0, 0)) := by
    have e := blk_new (w.alloc (Obj.cells (kakugyolaw01_SetPuts.bv kakugyolaw01_SetPuts.zl) 29)) (Obj.cells (kakugyolaw01_SetPuts.bv kakugyolaw01_SetPuts.zl) 29)
    have e2 : (w.alloc (Obj.cells (kakugyolaw01_SetPuts.bv kakugyolaw01_SetPuts.zl) 29)).heap.size = w.heap.size + 1 := by simp [go_sem]
    rw [e2] at e
    exact e
  have HB : Below w.heap.size w ((w.alloc (Obj.cells (kakugyolaw01_SetPuts.bv kakugyolaw01_SetPuts.zl) 29)).alloc (Obj.cells (kakugyolaw01_SetPuts.bv kakugyolaw01_SetPuts.zl) 29)) := below_alloc (below_alloc (Below.refl _ _) _) _
  have K4 := Aside0.mk BK4
  have K5 := Aside0.mk BK5
  have KB := Aside0.mk HB
  clear BK4 BK5 HB hsz hlz
  go_enter Tryd.func29, Tryd.ntmps29
  go_upto_region 2 with (first | ((with_reducible refine gate_store (t := 29) (p := 5) (v := .tmp 7) rfl ?_); refine kakugyolaw01_SetPuts.store rfl (.tmp 5) (.tmp 7) rfl rfl rfl K5.out HZ.out HL.out ?_; intro W3 s1 s2 s3 s4; have S5 := Aside0.mk s1; have SB := Aside0.mk (s2 _ _ (Nat.le_succ _) KB.out); have S4 := Aside0.mk ((s3 w.heap.size (by omega)).trans K4.out); clear s1 s2 s3 s4))
  clear K4 K5 KB
  go_wp2
  go_loopg [6] 82 (fun gf s6 wx => ∃ n : Nat, s6 = .int .i64 n ∧ n ≤ 81 ∧ Aside0 (wx.heap[w.heap.size + 1]? = some (.cells (kakugyolaw01_SetPuts.bv (kakugyolaw01_SetPuts.rowTo lo hi n)) 29 (0, 0))) ∧ Aside0 (wx.heap[w.heap.size]? = some (.cells (kakugyolaw01_SetPuts.bv kakugyolaw01_SetPuts.zl) 29 (0, 0))) ∧ Aside0 (Below w.heap.size w wx) ∧ 82 ≤ gf + n)
  case atStart => exact ⟨0, rfl, by omega, by rw [kakugyolaw01_SetPuts.rowTo_zero]; exact S5, S4, SB, by omega⟩
  case round =>
    clear S5 S4 SB
    obtain ⟨n, rfl, hn, S5, S4, SB, hgf⟩ := hrel
    by_cases h81 : n = 81
    · subst h81
      have hll := kakugyolaw01_SetPuts.rowTo_len lo hi 81
      go_wp2_with (first | ((with_reducible refine gate_dst (N := 29) rfl ?_); refine kakugyolaw01_SetPuts.load rfl (.tmp 5) rfl rfl S5.out hll ?_) | ((with_reducible refine gate_store (t := 29) (p := 4) (v := .tmp 29) rfl ?_); refine kakugyolaw01_SetPuts.store rfl (.tmp 4) (.tmp 29) rfl rfl rfl S4.out HZ.out hll ?_; intro W3 s1 s2 s3 s4; have S1 := Aside0.mk s1; have S2 := Aside0.mk (s2 _ _ (Nat.le_refl _) SB.out); clear s1 s2 s3 s4))
      refine bodyPost_ret (results_cell_row (p := 4) (ty := 29) rfl _ _ w.heap.size 29 (kakugyolaw01_SetPuts.bv (kakugyolaw01_SetPuts.rowTo lo hi 81)) (0, 0) _ rfl S1.out Tryd.underlying29 rfl (by rw [kakugyolaw01_SetPuts.info, kakugyolaw01_SetPuts.bv_size, hll])) rfl ?_
      exact ⟨rfl, S2.out⟩
    · have b0 : decide ((n : Int) < 81) = true := decide_eq_true (by omega)
      have b2 : (0 ≤ (n : Int) ∧ (n : Int) < 81) = True := eq_true (by omega)
      have hc : wr.cell? ⟨w.heap.size + 1, n, none⟩ = some (.bool ((kakugyolaw01_SetPuts.rowTo lo hi n).getD n false)) := (blk_cell S5.out _).trans (kakugyolaw01_SetPuts.bv_get _ _ (by rw [kakugyolaw01_SetPuts.rowTo_len]; omega))
      have hf : wr.frozen? ⟨w.heap.size + 1, n, none⟩ = false := blk_frozen S5.out _
      obtain ⟨g', rfl⟩ : ∃ g', gk = g' + 1 := ⟨gk - 1, by omega⟩
      by_cases h63 : n < 63
      · have b1 : decide ((n : Int) < 63) = true := decide_eq_true (by omega)
        go_upto_region 4 with (fail)
        have eb : ((lo / 2 ^ n).tmod 2 == 1) = kakugyolaw01_SetPuts.bitOf lo hi n := by unfold kakugyolaw01_SetPuts.bitOf; rw [if_pos h63]
        rw [eb]
        have B5 := blk_set S5.out n (.bool (kakugyolaw01_SetPuts.bitOf lo hi n))
        rw [kakugyolaw01_SetPuts.bv_set, kakugyolaw01_SetPuts.rowTo_set _ _ _ (by omega)] at B5
        have B4 := blk_far S4.out (p := ⟨w.heap.size + 1, n, none⟩) (by show w.heap.size ≠ w.heap.size + 1; omega) (.bool (kakugyolaw01_SetPuts.bitOf lo hi n))
        have BB := (SB.out).setCell (p := ⟨w.heap.size + 1, n, none⟩) (Nat.le_succ _) (.bool (kakugyolaw01_SetPuts.bitOf lo hi n))
        generalize wr.setCell ⟨w.heap.size + 1, n, none⟩ (.bool (kakugyolaw01_SetPuts.bitOf lo hi n)) = W2 at *
        clear hc hf S5 S4 SB
        have T5 := Aside0.mk B5
        have T4 := Aside0.mk B4
        have TB := Aside0.mk BB
        clear B5 B4 BB eb
        have ew : IntKind.i64.wrap ((n : Int) + 1) = (n : Int) + 1 := IntWalk.i64_in _ (by omega)
        go_wp2
        go_roundg g'
        case measure => omega
        case rel => exact ⟨n + 1, by simp, by omega, T5, T4, TB, by omega⟩
      · have b1 : decide ((n : Int) < 63) = false := decide_eq_false (by omega)
        have e1 : IntKind.i64.wrap ((n : Int) - 63) = (n : Int) - 63 := IntWalk.i64_in _ (by omega)
        have e2 : ((n : Int) - 63).toNat = n - 63 := by omega
        have e3 : (0 ≤ (n : Int) - 63) = True := eq_true (by omega)
        go_upto_region 4 with (fail)
        have eb : ((hi / 2 ^ (n - 63)).tmod 2 == 1) = kakugyolaw01_SetPuts.bitOf lo hi n := by unfold kakugyolaw01_SetPuts.bitOf; rw [if_neg h63]
        rw [eb]
        have B5 := blk_set S5.out n (.bool (kakugyolaw01_SetPuts.bitOf lo hi n))
        rw [kakugyolaw01_SetPuts.bv_set, kakugyolaw01_SetPuts.rowTo_set _ _ _ (by omega)] at B5
        have B4 := blk_far S4.out (p := ⟨w.heap.size + 1, n, none⟩) (by show w.heap.size ≠ w.heap.size + 1; omega) (.bool (kakugyolaw01_SetPuts.bitOf lo hi n))
        have BB := (SB.out).setCell (p := ⟨w.heap.size + 1, n, none⟩) (Nat.le_succ _) (.bool (kakugyolaw01_SetPuts.bitOf lo hi n))
        generalize wr.setCell ⟨w.heap.size + 1, n, none⟩ (.bool (kakugyolaw01_SetPuts.bitOf lo hi n)) = W2 at *
        clear hc hf S5 S4 SB
        have T5 := Aside0.mk B5
        have T4 := Aside0.mk B4
        have TB := Aside0.mk BB
        clear B5 B4 BB eb
        have ew : IntKind.i64.wrap ((n : Int) + 1) = (n : Int) + 1 := IntWalk.i64_in _ (by omega)
        go_wp2
        go_roundg g'
        case measure => omega
        case rel => exact ⟨n + 1, by simp, by omega, T5, T4, TB, by omega⟩
set_option maxRecDepth 100000 in
set_option maxHeartbeats 4000000 in
theorem kakugyolaw01_SetPuts.plain_calls (lo hi : Int) (w : World) :
    Calls Tryd.prog 10 #[.agg #[.int .u64 lo, .int .u64 hi]] w fun e w' => e = .returned (.agg (kakugyolaw01_SetPuts.bv (kakugyolaw01_SetPuts.rowTo lo hi 81))) ∧ Below w.heap.size w w' := by
  have hu26 := Tryd.underlying26
  have hz := kakugyolaw01_SetPuts.zero
  have hsz : (kakugyolaw01_SetPuts.bv kakugyolaw01_SetPuts.zl).size = 81 := by rw [kakugyolaw01_SetPuts.bv_size, kakugyolaw01_SetPuts.zl_len]
  have hll := kakugyolaw01_SetPuts.rowTo_len lo hi 81
  have HZ := Aside0.mk hsz
  have B2 : ((w.alloc (Obj.cells #[.int .u64 lo, .int .u64 hi] 26)).alloc (Obj.cells (kakugyolaw01_SetPuts.bv kakugyolaw01_SetPuts.zl) 29)).heap[w.heap.size + 1]? = some (.cells (kakugyolaw01_SetPuts.bv kakugyolaw01_SetPuts.zl) 29 (0, 0)) := by
    have e := blk_new (w.alloc (Obj.cells #[.int .u64 lo, .int .u64 hi] 26)) (Obj.cells (kakugyolaw01_SetPuts.bv kakugyolaw01_SetPuts.zl) 29)
    have e2 : (w.alloc (Obj.cells #[.int .u64 lo, .int .u64 hi] 26)).heap.size = w.heap.size + 1 := by simp [go_sem]
    rw [e2] at e
    exact e
  have HB : Below w.heap.size w ((w.alloc (Obj.cells #[.int .u64 lo, .int .u64 hi] 26)).alloc (Obj.cells (kakugyolaw01_SetPuts.bv kakugyolaw01_SetPuts.zl) 29)) := below_alloc (below_alloc (Below.refl _ _) _) _
  have K2 := Aside0.mk B2
  have KB := Aside0.mk HB
  clear B2 HB hsz
  go_enter Tryd.func10, Tryd.ntmps10
  go_wp2_with (first | (go_at_call 29; refine (kakugyolaw01_SetPuts.of_calls _ _ _).mono ?_; rintro e w5 ⟨rfl, hb⟩; have J2 := Aside0.mk (blk_below K2.out hb); have JB := Aside0.mk (below_step KB.out hb); clear hb) | ((with_reducible refine gate_store (t := 29) (p := 2) (v := .tmp 7) rfl ?_); refine kakugyolaw01_SetPuts.store rfl (.tmp 2) (.tmp 7) rfl rfl rfl J2.out HZ.out hll ?_; intro W3 s1 s2 s3 s4; have S1 := Aside0.mk s1; have S2 := Aside0.mk (s2 _ _ (Nat.le_succ _) JB.out); clear s1 s2 s3 s4))
  refine bodyPost_ret (results_cell_row (p := 2) (ty := 29) rfl _ _ (w.heap.size + 1) 29 (kakugyolaw01_SetPuts.bv (kakugyolaw01_SetPuts.rowTo lo hi 81)) (0, 0) _ rfl S1.out Tryd.underlying29 rfl (by rw [kakugyolaw01_SetPuts.info, kakugyolaw01_SetPuts.bv_size, hll])) rfl ?_
  exact ⟨rfl, S2.out⟩
theorem kakugyolaw01_SetPuts.items (m : List Bool) (w : World) (d : Nat) : ∀ is : List Nat, (∀ i ∈ is, i < m.length) → (Op.eqItems (d + 1) 4 1 (kakugyolaw01_SetPuts.bv m) (kakugyolaw01_SetPuts.bv m) is).run Tryd.prog w = .ok true w
  | [], _ => by simp [Op.eqItems]
  | i :: is, h => by
    have hg := kakugyolaw01_SetPuts.bv_get m i (h i (by simp))
    have hp : (part 4 (kakugyolaw01_SetPuts.bv m) (i * 1)).run Tryd.prog w = .ok (.bool (m.getD i false)) w := by
      rw [Nat.mul_one]
      exact run_part_plain w (e := 4) (by kernel_rfl) hg
    have he : (Op.equalIn (d + 1) 4 (.bool (m.getD i false)) (.bool (m.getD i false))).run Tryd.prog w = .ok true w := by
      rw [run_equalIn_bool' w d 4 _ _ Tryd.underlying4]
      simp
    have ih := kakugyolaw01_SetPuts.items m w d is (fun j hj => h j (by simp [hj]))
    simp only [Op.eqItems, Sem.run_bind, hp, he, Result.andThen_ok]
    simpa using ih
theorem kakugyolaw01_SetPuts.same (m : List Bool) (w : World) (hm : m.length = 81) : (Op.equalIn 10000 29 (.agg (kakugyolaw01_SetPuts.bv m)) (.agg (kakugyolaw01_SetPuts.bv m))).run Tryd.prog w = .ok true w := by
  have h1 : (Tryd.prog.info? 4).isSome = true := by kernel_rfl
  obtain ⟨i, hi⟩ := Option.isSome_iff_exists.1 h1
  have hc : Tryd.prog.cellsOf 4 = 1 := by kernel_rfl
  rw [show (10000 : Nat) = 9999 + 1 from rfl, run_equalIn_array w 9999 _ _ Tryd.underlying29 hi, hc, show (9999 : Nat) = 9998 + 1 from rfl]
  exact kakugyolaw01_SetPuts.items m w 9998 _ (fun i hi => by rw [List.mem_range] at hi; omega)
theorem kakugyolaw01_SetPuts.neq (m : List Bool) (w : World) (o : Oper) (a : Act) (hm : m.length = 81) (K : Act → World → Prop) (Q : Exit → Act → World → Prop) (x y : Operand) (ho : o.op = .binOp .neq 29 x y 29) (hx : a.eval x = .agg (kakugyolaw01_SetPuts.bv m)) (hy : a.eval y = .agg (kakugyolaw01_SetPuts.bv m))
    (h : K (a.put o.dst (.bool false)) w) : Oper.wp Tryd.prog o a w K Q := by
  unfold Oper.wp execOp
  simp only [ho, hx, hy]
  have e := kakugyolaw01_SetPuts.same m w hm
  go_simp
  exact h
def kakugyolaw01_SetPuts.puts : List Bool → List Int → List Bool
  | l, [] => l
  | l, q :: qs => kakugyolaw01_SetPuts.puts (kakugyolaw01_SetPuts.putL l q true) qs
def kakugyolaw01_SetPuts.takes (k : Nat) : List Int → Int → Int → List Bool → Option Bool
  | [], _, _, _ => some true
  | q :: qs, lo, hi, l => (set_Set_Without.f k lo hi q).bind fun s => (set_Set_Has.f k s.1 s.2 q).bind fun t =>
      if t = false ∧ kakugyolaw01_SetPuts.rowTo s.1 s.2 81 = kakugyolaw01_SetPuts.putL l q false then kakugyolaw01_SetPuts.takes k qs s.1 s.2 (kakugyolaw01_SetPuts.putL l q false) else none
def kakugyolaw01_SetPuts.f (a0 : List Int) (a1 : List Int) : Option Bool := (kakugyolaw01_holds.f (a0.length + 100)).bind fun t => (set_Of.f (a0.length + 100) a0).bind fun s =>
  if t = true ∧ kakugyolaw01_SetPuts.rowTo s.1 s.2 81 = kakugyolaw01_SetPuts.puts kakugyolaw01_SetPuts.zl a0 then kakugyolaw01_SetPuts.takes (a0.length + 100) a1 s.1 s.2 (kakugyolaw01_SetPuts.puts kakugyolaw01_SetPuts.zl a0) else none
theorem kakugyolaw01_SetPuts.blk_new2 (w : World) (X Z : Obj) : ((w.alloc X).alloc Z).heap[w.heap.size + 1]? = some Z := by
  have e := blk_new (w.alloc X) Z
  have e2 : (w.alloc X).heap.size = w.heap.size + 1 := by simp [go_sem]
  rw [e2] at e
  exact e
theorem kakugyolaw01_SetPuts.puts_len : ∀ (l : List Int) (m : List Bool), (kakugyolaw01_SetPuts.puts m l).length = m.length
  | [], m => rfl
  | q :: l, m => by
    unfold kakugyolaw01_SetPuts.puts
    rw [kakugyolaw01_SetPuts.puts_len l, kakugyolaw01_SetPuts.putL_len]
set_option maxRecDepth 100000 in
set_option maxHeartbeats 8000000 in
theorem kakugyolaw01_SetPuts.calls (A0 : Option Addr) (c0 : Nat) (l0 : List Int) (A1 : Option Addr) (c1 : Nat) (l1 : List Int) (r : Bool) (w : World) (hT : bits_TrailingZeros64.Tab w) (hr0 : Kd.C (Kd.int .i64) w A0 l0.length l0) (hc0 : l0.length ≤ c0) (hr1 : Kd.C (Kd.int .i64) w A1 l1.length l1) (hc1 : l1.length ≤ c1) (h : kakugyolaw01_SetPuts.f l0 l1 = some r) :
    Calls Tryd.prog 3 #[.slice A0 l0.length c0, .slice A1 l1.length c1] w fun e w' => e = .returned (.bool r) ∧ Below w.heap.size w w' := by
  have hu26 := Tryd.underlying26
  have hz := kakugyolaw01_SetPuts.zero
  have hmax0 := Kd.C_max hr0
  have hmax1 := Kd.C_max hr1
  unfold kakugyolaw01_SetPuts.f at h
  obtain ⟨t, ht, h2⟩ := Option.bind_eq_some_iff.mp h
  obtain ⟨⟨lo, hi⟩, hs, h3⟩ := Option.bind_eq_some_iff.mp h2
  clear h h2
  dsimp only at h3
  by_cases hc : t = true ∧ kakugyolaw01_SetPuts.rowTo lo hi 81 = kakugyolaw01_SetPuts.puts kakugyolaw01_SetPuts.zl l0
  · rw [if_pos hc] at h3
    obtain ⟨ht1, he⟩ := hc
    rw [ht1] at ht
    obtain ⟨F, hF⟩ : ∃ F, F = kakugyolaw01_SetPuts.puts kakugyolaw01_SetPuts.zl l0 := ⟨_, rfl⟩
    have hFl : F.length = 81 := by rw [hF, kakugyolaw01_SetPuts.puts_len, kakugyolaw01_SetPuts.zl_len]
    rw [← hF] at h3 he
    have HH := Aside0.mk ht
    have HS := Aside0.mk hs
    have HR := Aside0.mk h3
    have HE := Aside0.mk he
    have HF := Aside0.mk hF
    have R0 := Aside0.mk hr0
    have C0 := Aside0.mk hc0
    have R1 := Aside0.mk hr1
    have C1 := Aside0.mk hc1
    have HT := Aside0.mk hT
    have HB := Aside0.mk (Below.refl w.heap.size w)
    have HZ : Aside0 ((kakugyolaw01_SetPuts.bv kakugyolaw01_SetPuts.zl).size = 81) := ⟨by rw [kakugyolaw01_SetPuts.bv_size, kakugyolaw01_SetPuts.zl_len]⟩
    have HL := Aside0.mk kakugyolaw01_SetPuts.zl_len
    clear ht hs h3 he hr0 hc0 hr1 hc1 hT ht1 hF
    go_enter Tryd.func3, Tryd.ntmps3
    go_upto_region 5 with (first | (go_at_call 7; refine (kakugyolaw01_holds.calls _ _ _ (HT.out.below HB.out) HH.out).mono ?_; rintro e w5 ⟨rfl, hb⟩; have n0 := Aside0.mk (below_step HB.out hb); clear HB hb; have HB := n0; clear n0) | (go_at_call 8; refine (set_Of.calls _ _ _ _ _ _ _ (Kd.C_below R0.out HB.out) C0.out HS.out).mono ?_; rintro e w6 ⟨rfl, hb⟩; have n0 := Aside0.mk (below_step HB.out hb); clear HB hb; have HB := n0; clear n0) | ((with_reducible refine gate_store (t := 29) (p := 6) (v := .tmp 15) rfl ?_); refine kakugyolaw01_SetPuts.store rfl (.tmp 6) (.tmp 15) rfl rfl rfl (kakugyolaw01_SetPuts.blk_new2 _ _ _) HZ.out HL.out ?_; intro W3 s1 s2 s3 s4; have K6 := Aside0.mk s1; have K5 := Aside0.mk ((s3 w6.heap.size (by omega)).trans (blk_alloc (blk_new w6 _) _)); have HG := Aside0.mk HB.out.size; have n0 := Aside0.mk (s2 w.heap.size w (Nat.le_succ_of_le HB.out.size) (below_alloc (below_alloc HB.out _) _)); clear HB; have HB := n0; clear n0 s1 s2 s3 s4))
    generalize w6.heap.size = g5 at *
    go_wp2
    go_loopg [18] (l0.length + 1) (fun gf s18 wx => ∃ (n : Nat) (m : List Bool), s18 = .int .i64 n ∧ n ≤ l0.length ∧ m.length = 81 ∧ Aside0 (kakugyolaw01_SetPuts.puts m (l0.drop n) = F) ∧ Aside0 (wx.heap[g5 + 1]? = some (.cells (kakugyolaw01_SetPuts.bv m) 29 (0, 0))) ∧ Aside0 (wx.heap[g5]? = some (.cells #[.int .u64 lo, .int .u64 hi] 26 (0, 0))) ∧ Aside0 (Below w.heap.size w wx) ∧ l0.length + 1 ≤ gf + n)
    case atStart => exact ⟨0, kakugyolaw01_SetPuts.zl, rfl, by omega, HL.out, ⟨by rw [List.drop_zero]; exact HF.out.symm⟩, K6, K5, HB, by omega⟩
    case round =>
      clear K6 K5 HB
      obtain ⟨n, m, rfl, hn, hml, HP, K6, K5, HB, hgf⟩ := hrel
      by_cases hend : n = l0.length
      · subst hend
        have hmF : m = F := by
          have := HP.out
          rw [List.drop_of_length_le (Nat.le_refl _)] at this
          exact this
        subst hmF
        go_upto_region 10 with (fail)
        go_cut [29] (fun s29 wx => s29 = .bool false ∧ Aside0 (wx.heap[g5 + 1]? = some (.cells (kakugyolaw01_SetPuts.bv m) 29 (0, 0))) ∧ Aside0 (wx.heap[g5]? = some (.cells #[.int .u64 lo, .int .u64 hi] 26 (0, 0))) ∧ Aside0 (Below w.heap.size w wx))
        case first =>
          refine wp_region_held_drew (S := fun _ => True) (by kernel_rfl) trivial (fun _ => ?_)
          have n6 := Aside0.mk (blk_drew K6.out)
          have n5 := Aside0.mk (blk_drew K5.out)
          have nB := Aside0.mk (below_drew HB.out)
          clear K6 K5 HB
          have K6 := n6
          have K5 := n5
          have HB := nB
          clear n6 n5 nB
          refine wpAnyH_ready (rs := [0, 2]) (by kernel_rfl) (by simp) ?_
          refine AllReadyH.cons rfl (fun K hK => ?_) ?_
          · show (if Region.wanted ⟨some 26, .load 26 (.tmp 5), _, _, _, none⟩ _ = true then Oper.wp _ ⟨some 26, .load 26 (.tmp 5), _, _, _, none⟩ _ _ _ _ else _)
            have e0 := (blk_cell K5.out 0).trans (show _ = some (Value.int .u64 lo) from rfl)
            have e1 := (blk_cell K5.out 1).trans (show _ = some (Value.int .u64 hi) from rfl)
            go_simp
            clear e0 e1
            refine hK.out _ _ trivial (fun _ => ?_)
            clear hK K
            (try simp only [Act.put, List.setIfInBounds_toArray, List.set_cons_zero, List.set_cons_succ])
            refine wpAnyH_ready (rs := [1, 2]) (by kernel_rfl) (by simp) ?_
            refine AllReadyH.cons rfl (fun K hK => ?_) ?_
            · show (if Region.wanted ⟨some 27, .call _, _, _, _, none⟩ _ = true then Oper.wp _ ⟨some 27, .call _, _, _, _, none⟩ _ _ _ _ else _)
              go_simp
              have pc := fun W => kakugyolaw01_SetPuts.plain_calls lo hi W
              rw [HE.out] at pc
              refine (pc _).mono ?_
              rintro e w7 ⟨rfl, hb⟩
              have n6 := Aside0.mk (blk_below K6.out hb)
              have n5 := Aside0.mk (blk_below K5.out hb)
              have nB := Aside0.mk (below_step HB.out hb)
              clear K6 K5 HB hb
              have K6 := n6
              have K5 := n5
              have HB := nB
              clear n6 n5 nB
              refine hK.out _ _ trivial (fun _ => ?_)
              clear hK K
              (try simp only [Act.put, List.setIfInBounds_toArray, List.set_cons_zero, List.set_cons_succ])
              refine wpAnyH_ready (rs := [2]) (by kernel_rfl) (by simp) ?_
              refine AllReadyH.cons rfl (fun K hK => ?_) AllReadyH.nil
              show (if Region.wanted ⟨some 28, .load 29 (.tmp 6), _, _, _, none⟩ _ = true then Oper.wp _ ⟨some 28, .load 29 (.tmp 6), _, _, _, none⟩ _ _ _ _ else _)
              rw [if_pos (by rfl)]
              refine kakugyolaw01_SetPuts.wp_load (.tmp 6) rfl rfl K6.out hml ?_
              refine hK.out _ _ trivial (fun _ => ?_)
              clear hK K
              (try simp only [Act.put, List.setIfInBounds_toArray, List.set_cons_zero, List.set_cons_succ])
              refine wpAnyH_ready (rs := [3]) (by kernel_rfl) (by simp) ?_
              refine AllReadyH.cons rfl (fun K hK => ?_) AllReadyH.nil
              show (if Region.wanted ⟨some 29, .binOp .neq 29 (.tmp 27) (.tmp 28) 29, _, _, _, none⟩ _ = true then Oper.wp _ ⟨some 29, .binOp .neq 29 (.tmp 27) (.tmp 28) 29, _, _, _, none⟩ _ _ _ _ else _)
              rw [if_pos (by rfl)]
              refine kakugyolaw01_SetPuts.neq m _ _ _ hml _ _ (.tmp 27) (.tmp 28) rfl rfl rfl ?_
              refine hK.out _ _ trivial (fun _ => ?_)
              clear hK K
              (try simp only [Act.put, List.setIfInBounds_toArray, List.set_cons_zero, List.set_cons_succ])
              refine wpAnyH_done (by kernel_rfl) ?_ _
              go_wp2
              go_meet
              exact ⟨rfl, K6, K5, HB⟩
            refine AllReadyH.cons rfl (fun K hK => ?_) AllReadyH.nil
            show (if Region.wanted ⟨some 28, .load 29 (.tmp 6), _, _, _, none⟩ _ = true then Oper.wp _ ⟨some 28, .load 29 (.tmp 6), _, _, _, none⟩ _ _ _ _ else _)
            rw [if_pos (by rfl)]
            refine kakugyolaw01_SetPuts.wp_load (.tmp 6) rfl rfl K6.out hml ?_
            refine hK.out _ _ trivial (fun _ => ?_)
            clear hK K
            (try simp only [Act.put, List.setIfInBounds_toArray, List.set_cons_zero, List.set_cons_succ])
            refine wpAnyH_ready (rs := [1]) (by kernel_rfl) (by simp) ?_
            refine AllReadyH.cons rfl (fun K hK => ?_) AllReadyH.nil
            show (if Region.wanted ⟨some 27, .call _, _, _, _, none⟩ _ = true then Oper.wp _ ⟨some 27, .call _, _, _, _, none⟩ _ _ _ _ else _)
            go_simp
            have pc := fun W => kakugyolaw01_SetPuts.plain_calls lo hi W
            rw [HE.out] at pc
            refine (pc _).mono ?_
            rintro e w7 ⟨rfl, hb⟩
            have n6 := Aside0.mk (blk_below K6.out hb)
            have n5 := Aside0.mk (blk_below K5.out hb)
            have nB := Aside0.mk (below_step HB.out hb)
            clear K6 K5 HB hb
            have K6 := n6
            have K5 := n5
            have HB := nB
            clear n6 n5 nB
            refine hK.out _ _ trivial (fun _ => ?_)
            clear hK K
            (try simp only [Act.put, List.setIfInBounds_toArray, List.set_cons_zero, List.set_cons_succ])
            refine wpAnyH_ready (rs := [3]) (by kernel_rfl) (by simp) ?_
            refine AllReadyH.cons rfl (fun K hK => ?_) AllReadyH.nil
            show (if Region.wanted ⟨some 29, .binOp .neq 29 (.tmp 27) (.tmp 28) 29, _, _, _, none⟩ _ = true then Oper.wp _ ⟨some 29, .binOp .neq 29 (.tmp 27) (.tmp 28) 29, _, _, _, none⟩ _ _ _ _ else _)
            rw [if_pos (by rfl)]
            refine kakugyolaw01_SetPuts.neq m _ _ _ hml _ _ (.tmp 27) (.tmp 28) rfl rfl rfl ?_
            refine hK.out _ _ trivial (fun _ => ?_)
            clear hK K
            (try simp only [Act.put, List.setIfInBounds_toArray, List.set_cons_zero, List.set_cons_succ])
            refine wpAnyH_done (by kernel_rfl) ?_ _
            go_wp2
            go_meet
            exact ⟨rfl, K6, K5, HB⟩
          refine AllReadyH.cons rfl (fun K hK => ?_) AllReadyH.nil
          show (if Region.wanted ⟨some 28, .load 29 (.tmp 6), _, _, _, none⟩ _ = true then Oper.wp _ ⟨some 28, .load 29 (.tmp 6), _, _, _, none⟩ _ _ _ _ else _)
          rw [if_pos (by rfl)]
          refine kakugyolaw01_SetPuts.wp_load (.tmp 6) rfl rfl K6.out hml ?_
          refine hK.out _ _ trivial (fun _ => ?_)
          clear hK K
          (try simp only [Act.put, List.setIfInBounds_toArray, List.set_cons_zero, List.set_cons_succ])
          refine wpAnyH_ready (rs := [0]) (by kernel_rfl) (by simp) ?_
          refine AllReadyH.cons rfl (fun K hK => ?_) AllReadyH.nil
          show (if Region.wanted ⟨some 26, .load 26 (.tmp 5), _, _, _, none⟩ _ = true then Oper.wp _ ⟨some 26, .load 26 (.tmp 5), _, _, _, none⟩ _ _ _ _ else _)
          have e0 := (blk_cell K5.out 0).trans (show _ = some (Value.int .u64 lo) from rfl)
          have e1 := (blk_cell K5.out 1).trans (show _ = some (Value.int .u64 hi) from rfl)
          go_simp
          clear e0 e1
          refine hK.out _ _ trivial (fun _ => ?_)
          clear hK K
          (try simp only [Act.put, List.setIfInBounds_toArray, List.set_cons_zero, List.set_cons_succ])
          refine wpAnyH_ready (rs := [1]) (by kernel_rfl) (by simp) ?_
          refine AllReadyH.cons rfl (fun K hK => ?_) AllReadyH.nil
          show (if Region.wanted ⟨some 27, .call _, _, _, _, none⟩ _ = true then Oper.wp _ ⟨some 27, .call _, _, _, _, none⟩ _ _ _ _ else _)
          go_simp
          have pc := fun W => kakugyolaw01_SetPuts.plain_calls lo hi W
          rw [HE.out] at pc
          refine (pc _).mono ?_
          rintro e w7 ⟨rfl, hb⟩
          have n6 := Aside0.mk (blk_below K6.out hb)
          have n5 := Aside0.mk (blk_below K5.out hb)
          have nB := Aside0.mk (below_step HB.out hb)
          clear K6 K5 HB hb
          have K6 := n6
          have K5 := n5
          have HB := nB
          clear n6 n5 nB
          refine hK.out _ _ trivial (fun _ => ?_)
          clear hK K
          (try simp only [Act.put, List.setIfInBounds_toArray, List.set_cons_zero, List.set_cons_succ])
          refine wpAnyH_ready (rs := [3]) (by kernel_rfl) (by simp) ?_
          refine AllReadyH.cons rfl (fun K hK => ?_) AllReadyH.nil
          show (if Region.wanted ⟨some 29, .binOp .neq 29 (.tmp 27) (.tmp 28) 29, _, _, _, none⟩ _ = true then Oper.wp _ ⟨some 29, .binOp .neq 29 (.tmp 27) (.tmp 28) 29, _, _, _, none⟩ _ _ _ _ else _)
          rw [if_pos (by rfl)]
          refine kakugyolaw01_SetPuts.neq m _ _ _ hml _ _ (.tmp 27) (.tmp 28) rfl rfl rfl ?_
          refine hK.out _ _ trivial (fun _ => ?_)
          clear hK K
          (try simp only [Act.put, List.setIfInBounds_toArray, List.set_cons_zero, List.set_cons_succ])
          refine wpAnyH_done (by kernel_rfl) ?_ _
          go_wp2
          go_meet
          exact ⟨rfl, K6, K5, HB⟩
        case rest =>
          clear K6 K5 HB
          obtain ⟨rfl, K6, K5, HB⟩ := hcut
          go_wp2
          go_loopg [32] (l1.length + 1) (fun gf s32 wx => ∃ (n : Nat) (x y : Int) (m : List Bool), s32 = .int .i64 n ∧ n ≤ l1.length ∧ m.length = 81 ∧ Aside0 (kakugyolaw01_SetPuts.takes (l0.length + 100) (l1.drop n) x y m = some r) ∧ Aside0 (wx.heap[g5 + 1]? = some (.cells (kakugyolaw01_SetPuts.bv m) 29 (0, 0))) ∧ Aside0 (wx.heap[g5]? = some (.cells #[.int .u64 x, .int .u64 y] 26 (0, 0))) ∧ Aside0 (Below w.heap.size w wx) ∧ l1.length + 1 ≤ gf + n)
          case atStart => exact ⟨0, lo, hi, m, rfl, by omega, hml, ⟨by rw [List.drop_zero]; exact HR.out⟩, K6, K5, HB, by omega⟩
          case round =>
            clear K6 K5 HB HR HE HP hml
            obtain ⟨n, x, y, m, rfl, hn, hml, HP, K6, K5, HB, hgf⟩ := hrel
            by_cases hend : n = l1.length
            · subst hend
              have e := HP.out
              rw [List.drop_of_length_le (Nat.le_refl _)] at e
              have er : r = true := (Option.some.inj e).symm
              subst er
              clear e HP
              go_wp2
              go_ret
              exact ⟨rfl, HB.out⟩
            · have hlt : n < l1.length := by omega
              have b0 : decide ((n : Int) < (l1.length : Int)) = true := decide_eq_true (by omega)
              obtain ⟨ad, ea, g⟩ := Kd.at_int (Kd.C_below R1.out HB.out) n (by omega) (by omega)
              cases ea
              have b2 : (0 ≤ (n : Int) ∧ (n : Int) < (l1.length : Int)) = True := eq_true (by omega)
              rw [show ((n : Int)).toNat = n by omega] at g
              obtain ⟨q, hq⟩ : ∃ q, q = rd l1 n := ⟨_, rfl⟩
              rw [← hq] at g
              have e := HP.out
              rw [List.drop_eq_getElem_cons hlt] at e
              have eq2 : l1[n] = q := by rw [hq]; unfold rd; rw [show ((n : Int)).toNat = n by omega, List.getD_eq_getElem?_getD, List.getElem?_eq_getElem hlt]; rfl
              rw [eq2] at e
              unfold kakugyolaw01_SetPuts.takes at e
              obtain ⟨⟨x2, y2⟩, hw, e2⟩ := Option.bind_eq_some_iff.mp e
              obtain ⟨t, ha, e3⟩ := Option.bind_eq_some_iff.mp e2
              dsimp only at ha e3
              by_cases hc : t = false ∧ kakugyolaw01_SetPuts.rowTo x2 y2 81 = kakugyolaw01_SetPuts.putL m q false
              · rw [if_pos hc] at e3
                obtain ⟨ht, he⟩ := hc
                rw [ht] at ha
                obtain ⟨m2, hm2⟩ : ∃ m2, m2 = kakugyolaw01_SetPuts.putL m q false := ⟨_, rfl⟩
                have hml2 : m2.length = 81 := by rw [hm2, kakugyolaw01_SetPuts.putL_len, hml]
                have hbs : (kakugyolaw01_SetPuts.bv m).size = 81 := by rw [kakugyolaw01_SetPuts.bv_size, hml]
                rw [← hm2] at he e3
                have HW := Aside0.mk hw
                have HA := Aside0.mk ha
                have HE2 := Aside0.mk he
                have HP2 := Aside0.mk e3
                have HM2 := Aside0.mk hml2
                have HBS := Aside0.mk hbs
                have HPM := Aside0.mk hm2
                have HQ := Aside0.mk hq
                have ew : IntKind.i64.wrap ((n : Int) + 1) = (n : Int) + 1 := IntWalk.i64_in _ (by omega)
                obtain ⟨g', rfl⟩ : ∃ g', gk = g' + 1 := ⟨gk - 1, by omega⟩
                clear hw ha he e3 e2 e hml2 hbs hm2 hq HP ht eq2
                go_upto_region 15 with (fail)
                go_cut [] (fun wx => Aside0 (wx.heap[g5 + 1]? = some (.cells (kakugyolaw01_SetPuts.bv m2) 29 (0, 0))) ∧ Aside0 (wx.heap[g5]? = some (.cells #[.int .u64 x2, .int .u64 y2] 26 (0, 0))) ∧ Aside0 (Below w.heap.size w wx))
                case first =>
                  refine wp_region_held_drew (S := fun _ => True) (by kernel_rfl) trivial (fun _ => ?_)
                  have n6 := Aside0.mk (blk_drew K6.out)
                  have n5 := Aside0.mk (blk_drew K5.out)
                  have nB := Aside0.mk (below_drew HB.out)
                  clear K6 K5 HB
                  have K6 := n6
                  have K5 := n5
                  have HB := nB
                  clear n6 n5 nB
                  refine wpAnyH_take (i := 1) (v := ?_) rfl (by kernel_rfl) (by kernel_rfl) (by kernel_rfl) (fun _ _ _ h => h) (Or.inl ⟨by rfl, ?_⟩) trivial ?_
                  rotate_left
                  · intro w _
                    go_simp
                    try with_reducible rfl
                  show wpAnyH _ _ _ _ _ _ _ (Act.put _ (some 37) _) _
                  (try simp only [Act.put, List.setIfInBounds_toArray, List.set_cons_zero, List.set_cons_succ])
                  refine wpAnyH_take (i := 4) (v := ?_) rfl (by kernel_rfl) (by kernel_rfl) (by kernel_rfl) (fun _ _ _ h => h) (Or.inl ⟨by rfl, ?_⟩) trivial ?_
                  rotate_left
                  · intro w _
                    go_simp
                    try with_reducible rfl
                  show wpAnyH _ _ _ _ _ _ _ (Act.put _ (some 40) _) _
                  (try simp only [Act.put, List.setIfInBounds_toArray, List.set_cons_zero, List.set_cons_succ])
                  refine wpAnyH_ready (rs := [0, 3]) (by kernel_rfl) (by simp) ?_
                  refine AllReadyH.cons rfl (fun K hK => ?_) ?_
                  · show (if Region.wanted ⟨some 36, .load 26 (.tmp 5), _, _, _, none⟩ _ = true then Oper.wp _ ⟨some 36, .load 26 (.tmp 5), _, _, _, none⟩ _ _ _ _ else _)
                    have e0 := (blk_cell K5.out 0).trans (show _ = some (Value.int .u64 x) from rfl)
                    have e1 := (blk_cell K5.out 1).trans (show _ = some (Value.int .u64 y) from rfl)
                    go_simp
                    clear e0 e1
                    refine hK.out _ _ trivial (fun _ => ?_)
                    clear hK K
                    (try simp only [Act.put, List.setIfInBounds_toArray, List.set_cons_zero, List.set_cons_succ])
                    refine wpAnyH_ready (rs := [2, 3]) (by kernel_rfl) (by simp) ?_
                    refine AllReadyH.cons rfl (fun K hK => ?_) ?_
                    · show (if Region.wanted ⟨some 38, .call _, _, _, _, none⟩ _ = true then Oper.wp _ ⟨some 38, .call _, _, _, _, none⟩ _ _ _ _ else _)
                      go_simp
                      refine (set_Set_Without.calls _ _ _ _ _ _ _ HW.out).mono ?_
                      rintro e w7 ⟨rfl, hb⟩
                      have n6 := Aside0.mk (blk_below K6.out hb)
                      have n5 := Aside0.mk (blk_below K5.out hb)
                      have nB := Aside0.mk (below_step HB.out hb)
                      clear K6 K5 HB hb
                      have K6 := n6
                      have K5 := n5
                      have HB := nB
                      clear n6 n5 nB
                      refine hK.out _ _ trivial (fun _ => ?_)
                      clear hK K
                      (try simp only [Act.put, List.setIfInBounds_toArray, List.set_cons_zero, List.set_cons_succ])
                      refine wpAnyH_ready (rs := [3]) (by kernel_rfl) (by simp) ?_
                      refine AllReadyH.cons rfl (fun K hK => ?_) AllReadyH.nil
                      show (if Region.wanted ⟨some 39, .load 29 (.tmp 6), _, _, _, none⟩ _ = true then Oper.wp _ ⟨some 39, .load 29 (.tmp 6), _, _, _, none⟩ _ _ _ _ else _)
                      rw [if_pos (by rfl)]
                      refine kakugyolaw01_SetPuts.wp_load (.tmp 6) rfl rfl K6.out hml ?_
                      refine hK.out _ _ trivial (fun _ => ?_)
                      clear hK K
                      (try simp only [Act.put, List.setIfInBounds_toArray, List.set_cons_zero, List.set_cons_succ])
                      refine wpAnyH_ready (rs := [5]) (by kernel_rfl) (by simp) ?_
                      refine AllReadyH.cons rfl (fun K hK => ?_) AllReadyH.nil
                      show (if Region.wanted ⟨some 41, .call _, _, _, _, none⟩ _ = true then Oper.wp _ ⟨some 41, .call _, _, _, _, none⟩ _ _ _ _ else _)
                      go_simp
                      have pc := fun W => kakugyolaw01_SetPuts.put_calls m q false W hml
                      rw [← HPM.out] at pc
                      refine (pc _).mono ?_
                      rintro e w7 ⟨rfl, hb⟩
                      have n6 := Aside0.mk (blk_below K6.out hb)
                      have n5 := Aside0.mk (blk_below K5.out hb)
                      have nB := Aside0.mk (below_step HB.out hb)
                      clear K6 K5 HB hb
                      have K6 := n6
                      have K5 := n5
                      have HB := nB
                      clear n6 n5 nB
                      refine hK.out _ _ trivial (fun _ => ?_)
                      clear hK K
                      (try simp only [Act.put, List.setIfInBounds_toArray, List.set_cons_zero, List.set_cons_succ])
                      refine wpAnyH_ready (rs := [6]) (by kernel_rfl) (by simp) ?_
                      refine AllReadyH.cons rfl (fun K hK => ?_) AllReadyH.nil
                      show (if Region.wanted ⟨none, .store 26 (.tmp 5) (.tmp 38), _, _, _, none⟩ _ = true then Oper.wp _ ⟨none, .store 26 (.tmp 5) (.tmp 38), _, _, _, none⟩ _ _ _ _ else _)
                      have e0 := (blk_cell K5.out 0).trans (show _ = some (Value.int .u64 x) from rfl)
                      have e1 := (blk_cell K5.out 1).trans (show _ = some (Value.int .u64 y) from rfl)
                      have f0 := blk_frozen K5.out 0
                      have f1 := blk_frozen K5.out 1
                      go_simp
                      clear e0 e1 f0 f1
                      refine hK.out _ _ trivial (fun _ => ?_)
                      clear hK K
                      have n5 := blk_set (blk_set K5.out 0 (.int .u64 x2)) 1 (.int .u64 y2)
                      have n6 := blk_far (blk_far K6.out (p := ⟨g5, 0, none⟩) (by show g5 + 1 ≠ g5; omega) (.int .u64 x2)) (p := ⟨g5, 1, none⟩) (by show g5 + 1 ≠ g5; omega) (.int .u64 y2)
                      have nB := (HB.out.setCell (p := ⟨g5, 0, none⟩) HG.out (.int .u64 x2)).setCell (p := ⟨g5, 1, none⟩) HG.out (.int .u64 y2)
                      clear K6 K5 HB
                      have K6 := Aside0.mk n6
                      have K5 := Aside0.mk n5
                      have HB := Aside0.mk nB
                      clear n6 n5 nB
                      (try simp only [Act.put, List.setIfInBounds_toArray, List.set_cons_zero, List.set_cons_succ])
                      refine wpAnyH_ready (rs := [7]) (by kernel_rfl) (by simp) ?_
                      refine AllReadyH.cons rfl (fun K hK => ?_) AllReadyH.nil
                      show (if Region.wanted ⟨none, .store 29 (.tmp 6) (.tmp 41), _, _, _, none⟩ _ = true then Oper.wp _ ⟨none, .store 29 (.tmp 6) (.tmp 41), _, _, _, none⟩ _ _ _ _ else _)
                      rw [if_pos (by rfl)]
                      refine kakugyolaw01_SetPuts.wp_store (.tmp 6) (.tmp 41) rfl rfl rfl K6.out HBS.out HM2.out ?_
                      intro W3 s1 s2 s3 s4
                      refine hK.out _ _ trivial (fun _ => ?_)
                      clear hK K
                      have n6 := Aside0.mk s1
                      have n5 := Aside0.mk ((s3 g5 (by omega)).trans K5.out)
                      have nB := Aside0.mk (s2 w.heap.size w (Nat.le_succ_of_le HG.out) HB.out)
                      clear K6 K5 HB s1 s2 s3 s4
                      have K6 := n6
                      have K5 := n5
                      have HB := nB
                      clear n6 n5 nB
                      (try simp only [Act.put, List.setIfInBounds_toArray, List.set_cons_zero, List.set_cons_succ])
                      refine wpAnyH_done (by kernel_rfl) ?_ _
                      go_wp2
                      go_meet
                      exact ⟨K6, K5, HB⟩
                    refine AllReadyH.cons rfl (fun K hK => ?_) AllReadyH.nil
                    show (if Region.wanted ⟨some 39, .load 29 (.tmp 6), _, _, _, none⟩ _ = true then Oper.wp _ ⟨some 39, .load 29 (.tmp 6), _, _, _, none⟩ _ _ _ _ else _)
                    rw [if_pos (by rfl)]
                    refine kakugyolaw01_SetPuts.wp_load (.tmp 6) rfl rfl K6.out hml ?_
                    refine hK.out _ _ trivial (fun _ => ?_)
                    clear hK K
                    (try simp only [Act.put, List.setIfInBounds_toArray, List.set_cons_zero, List.set_cons_succ])
                    refine wpAnyH_ready (rs := [2]) (by kernel_rfl) (by simp) ?_
                    refine AllReadyH.cons rfl (fun K hK => ?_) AllReadyH.nil
                    show (if Region.wanted ⟨some 38, .call _, _, _, _, none⟩ _ = true then Oper.wp _ ⟨some 38, .call _, _, _, _, none⟩ _ _ _ _ else _)
                    go_simp
                    refine (set_Set_Without.calls _ _ _ _ _ _ _ HW.out).mono ?_
                    rintro e w7 ⟨rfl, hb⟩
                    have n6 := Aside0.mk (blk_below K6.out hb)
                    have n5 := Aside0.mk (blk_below K5.out hb)
                    have nB := Aside0.mk (below_step HB.out hb)
                    clear K6 K5 HB hb
                    have K6 := n6
                    have K5 := n5
                    have HB := nB
                    clear n6 n5 nB
                    refine hK.out _ _ trivial (fun _ => ?_)
                    clear hK K
                    (try simp only [Act.put, List.setIfInBounds_toArray, List.set_cons_zero, List.set_cons_succ])
                    refine wpAnyH_ready (rs := [5]) (by kernel_rfl) (by simp) ?_
                    refine AllReadyH.cons rfl (fun K hK => ?_) AllReadyH.nil
                    show (if Region.wanted ⟨some 41, .call _, _, _, _, none⟩ _ = true then Oper.wp _ ⟨some 41, .call _, _, _, _, none⟩ _ _ _ _ else _)
                    go_simp
                    have pc := fun W => kakugyolaw01_SetPuts.put_calls m q false W hml
                    rw [← HPM.out] at pc
                    refine (pc _).mono ?_
                    rintro e w7 ⟨rfl, hb⟩
                    have n6 := Aside0.mk (blk_below K6.out hb)
                    have n5 := Aside0.mk (blk_below K5.out hb)
                    have nB := Aside0.mk (below_step HB.out hb)
                    clear K6 K5 HB hb
                    have K6 := n6
                    have K5 := n5
                    have HB := nB
                    clear n6 n5 nB
                    refine hK.out _ _ trivial (fun _ => ?_)
                    clear hK K
                    (try simp only [Act.put, List.setIfInBounds_toArray, List.set_cons_zero, List.set_cons_succ])
                    refine wpAnyH_ready (rs := [6]) (by kernel_rfl) (by simp) ?_
                    refine AllReadyH.cons rfl (fun K hK => ?_) AllReadyH.nil
                    show (if Region.wanted ⟨none, .store 26 (.tmp 5) (.tmp 38), _, _, _, none⟩ _ = true then Oper.wp _ ⟨none, .store 26 (.tmp 5) (.tmp 38), _, _, _, none⟩ _ _ _ _ else _)
                    have e0 := (blk_cell K5.out 0).trans (show _ = some (Value.int .u64 x) from rfl)
                    have e1 := (blk_cell K5.out 1).trans (show _ = some (Value.int .u64 y) from rfl)
                    have f0 := blk_frozen K5.out 0
                    have f1 := blk_frozen K5.out 1
                    go_simp
                    clear e0 e1 f0 f1
                    refine hK.out _ _ trivial (fun _ => ?_)
                    clear hK K
                    have n5 := blk_set (blk_set K5.out 0 (.int .u64 x2)) 1 (.int .u64 y2)
                    have n6 := blk_far (blk_far K6.out (p := ⟨g5, 0, none⟩) (by show g5 + 1 ≠ g5; omega) (.int .u64 x2)) (p := ⟨g5, 1, none⟩) (by show g5 + 1 ≠ g5; omega) (.int .u64 y2)
                    have nB := (HB.out.setCell (p := ⟨g5, 0, none⟩) HG.out (.int .u64 x2)).setCell (p := ⟨g5, 1, none⟩) HG.out (.int .u64 y2)
                    clear K6 K5 HB
                    have K6 := Aside0.mk n6
                    have K5 := Aside0.mk n5
                    have HB := Aside0.mk nB
                    clear n6 n5 nB
                    (try simp only [Act.put, List.setIfInBounds_toArray, List.set_cons_zero, List.set_cons_succ])
                    refine wpAnyH_ready (rs := [7]) (by kernel_rfl) (by simp) ?_
                    refine AllReadyH.cons rfl (fun K hK => ?_) AllReadyH.nil
                    show (if Region.wanted ⟨none, .store 29 (.tmp 6) (.tmp 41), _, _, _, none⟩ _ = true then Oper.wp _ ⟨none, .store 29 (.tmp 6) (.tmp 41), _, _, _, none⟩ _ _ _ _ else _)
                    rw [if_pos (by rfl)]
                    refine kakugyolaw01_SetPuts.wp_store (.tmp 6) (.tmp 41) rfl rfl rfl K6.out HBS.out HM2.out ?_
                    intro W3 s1 s2 s3 s4
                    refine hK.out _ _ trivial (fun _ => ?_)
                    clear hK K
                    have n6 := Aside0.mk s1
                    have n5 := Aside0.mk ((s3 g5 (by omega)).trans K5.out)
                    have nB := Aside0.mk (s2 w.heap.size w (Nat.le_succ_of_le HG.out) HB.out)
                    clear K6 K5 HB s1 s2 s3 s4
                    have K6 := n6
                    have K5 := n5
                    have HB := nB
                    clear n6 n5 nB
                    (try simp only [Act.put, List.setIfInBounds_toArray, List.set_cons_zero, List.set_cons_succ])
                    refine wpAnyH_done (by kernel_rfl) ?_ _
                    go_wp2
                    go_meet
                    exact ⟨K6, K5, HB⟩
                  refine AllReadyH.cons rfl (fun K hK => ?_) AllReadyH.nil
                  show (if Region.wanted ⟨some 39, .load 29 (.tmp 6), _, _, _, none⟩ _ = true then Oper.wp _ ⟨some 39, .load 29 (.tmp 6), _, _, _, none⟩ _ _ _ _ else _)
                  rw [if_pos (by rfl)]
                  refine kakugyolaw01_SetPuts.wp_load (.tmp 6) rfl rfl K6.out hml ?_
                  refine hK.out _ _ trivial (fun _ => ?_)
                  clear hK K
                  (try simp only [Act.put, List.setIfInBounds_toArray, List.set_cons_zero, List.set_cons_succ])
                  refine wpAnyH_ready (rs := [0]) (by kernel_rfl) (by simp) ?_
                  refine AllReadyH.cons rfl (fun K hK => ?_) AllReadyH.nil
                  show (if Region.wanted ⟨some 36, .load 26 (.tmp 5), _, _, _, none⟩ _ = true then Oper.wp _ ⟨some 36, .load 26 (.tmp 5), _, _, _, none⟩ _ _ _ _ else _)
                  have e0 := (blk_cell K5.out 0).trans (show _ = some (Value.int .u64 x) from rfl)
                  have e1 := (blk_cell K5.out 1).trans (show _ = some (Value.int .u64 y) from rfl)
                  go_simp
                  clear e0 e1
                  refine hK.out _ _ trivial (fun _ => ?_)
                  clear hK K
                  (try simp only [Act.put, List.setIfInBounds_toArray, List.set_cons_zero, List.set_cons_succ])
                  refine wpAnyH_ready (rs := [2]) (by kernel_rfl) (by simp) ?_
                  refine AllReadyH.cons rfl (fun K hK => ?_) AllReadyH.nil
                  show (if Region.wanted ⟨some 38, .call _, _, _, _, none⟩ _ = true then Oper.wp _ ⟨some 38, .call _, _, _, _, none⟩ _ _ _ _ else _)
                  go_simp
                  refine (set_Set_Without.calls _ _ _ _ _ _ _ HW.out).mono ?_
                  rintro e w7 ⟨rfl, hb⟩
                  have n6 := Aside0.mk (blk_below K6.out hb)
                  have n5 := Aside0.mk (blk_below K5.out hb)
                  have nB := Aside0.mk (below_step HB.out hb)
                  clear K6 K5 HB hb
                  have K6 := n6
                  have K5 := n5
                  have HB := nB
                  clear n6 n5 nB
                  refine hK.out _ _ trivial (fun _ => ?_)
                  clear hK K
                  (try simp only [Act.put, List.setIfInBounds_toArray, List.set_cons_zero, List.set_cons_succ])
                  refine wpAnyH_ready (rs := [5]) (by kernel_rfl) (by simp) ?_
                  refine AllReadyH.cons rfl (fun K hK => ?_) AllReadyH.nil
                  show (if Region.wanted ⟨some 41, .call _, _, _, _, none⟩ _ = true then Oper.wp _ ⟨some 41, .call _, _, _, _, none⟩ _ _ _ _ else _)
                  go_simp
                  have pc := fun W => kakugyolaw01_SetPuts.put_calls m q false W hml
                  rw [← HPM.out] at pc
                  refine (pc _).mono ?_
                  rintro e w7 ⟨rfl, hb⟩
                  have n6 := Aside0.mk (blk_below K6.out hb)
                  have n5 := Aside0.mk (blk_below K5.out hb)
                  have nB := Aside0.mk (below_step HB.out hb)
                  clear K6 K5 HB hb
                  have K6 := n6
                  have K5 := n5
                  have HB := nB
                  clear n6 n5 nB
                  refine hK.out _ _ trivial (fun _ => ?_)
                  clear hK K
                  (try simp only [Act.put, List.setIfInBounds_toArray, List.set_cons_zero, List.set_cons_succ])
                  refine wpAnyH_ready (rs := [6]) (by kernel_rfl) (by simp) ?_
                  refine AllReadyH.cons rfl (fun K hK => ?_) AllReadyH.nil
                  show (if Region.wanted ⟨none, .store 26 (.tmp 5) (.tmp 38), _, _, _, none⟩ _ = true then Oper.wp _ ⟨none, .store 26 (.tmp 5) (.tmp 38), _, _, _, none⟩ _ _ _ _ else _)
                  have e0 := (blk_cell K5.out 0).trans (show _ = some (Value.int .u64 x) from rfl)
                  have e1 := (blk_cell K5.out 1).trans (show _ = some (Value.int .u64 y) from rfl)
                  have f0 := blk_frozen K5.out 0
                  have f1 := blk_frozen K5.out 1
                  go_simp
                  clear e0 e1 f0 f1
                  refine hK.out _ _ trivial (fun _ => ?_)
                  clear hK K
                  have n5 := blk_set (blk_set K5.out 0 (.int .u64 x2)) 1 (.int .u64 y2)
                  have n6 := blk_far (blk_far K6.out (p := ⟨g5, 0, none⟩) (by show g5 + 1 ≠ g5; omega) (.int .u64 x2)) (p := ⟨g5, 1, none⟩) (by show g5 + 1 ≠ g5; omega) (.int .u64 y2)
                  have nB := (HB.out.setCell (p := ⟨g5, 0, none⟩) HG.out (.int .u64 x2)).setCell (p := ⟨g5, 1, none⟩) HG.out (.int .u64 y2)
                  clear K6 K5 HB
                  have K6 := Aside0.mk n6
                  have K5 := Aside0.mk n5
                  have HB := Aside0.mk nB
                  clear n6 n5 nB
                  (try simp only [Act.put, List.setIfInBounds_toArray, List.set_cons_zero, List.set_cons_succ])
                  refine wpAnyH_ready (rs := [7]) (by kernel_rfl) (by simp) ?_
                  refine AllReadyH.cons rfl (fun K hK => ?_) AllReadyH.nil
                  show (if Region.wanted ⟨none, .store 29 (.tmp 6) (.tmp 41), _, _, _, none⟩ _ = true then Oper.wp _ ⟨none, .store 29 (.tmp 6) (.tmp 41), _, _, _, none⟩ _ _ _ _ else _)
                  rw [if_pos (by rfl)]
                  refine kakugyolaw01_SetPuts.wp_store (.tmp 6) (.tmp 41) rfl rfl rfl K6.out HBS.out HM2.out ?_
                  intro W3 s1 s2 s3 s4
                  refine hK.out _ _ trivial (fun _ => ?_)
                  clear hK K
                  have n6 := Aside0.mk s1
                  have n5 := Aside0.mk ((s3 g5 (by omega)).trans K5.out)
                  have nB := Aside0.mk (s2 w.heap.size w (Nat.le_succ_of_le HG.out) HB.out)
                  clear K6 K5 HB s1 s2 s3 s4
                  have K6 := n6
                  have K5 := n5
                  have HB := nB
                  clear n6 n5 nB
                  (try simp only [Act.put, List.setIfInBounds_toArray, List.set_cons_zero, List.set_cons_succ])
                  refine wpAnyH_done (by kernel_rfl) ?_ _
                  go_wp2
                  go_meet
                  exact ⟨K6, K5, HB⟩
                case rest =>
                  clear K6 K5 HB
                  obtain ⟨K6, K5, HB⟩ := hcut
                  clear HW hml HBS
                  go_wp2
                  go_cut [50] (fun s50 wx => s50 = .bool false ∧ Aside0 (wx.heap[g5 + 1]? = some (.cells (kakugyolaw01_SetPuts.bv m2) 29 (0, 0))) ∧ Aside0 (wx.heap[g5]? = some (.cells #[.int .u64 x2, .int .u64 y2] 26 (0, 0))) ∧ Aside0 (Below w.heap.size w wx))
                  case first =>
                    refine wp_region_held_drew (S := fun _ => True) (by kernel_rfl) trivial (fun _ => ?_)
                    have n6 := Aside0.mk (blk_drew K6.out)
                    have n5 := Aside0.mk (blk_drew K5.out)
                    have nB := Aside0.mk (below_drew HB.out)
                    clear K6 K5 HB
                    have K6 := n6
                    have K5 := n5
                    have HB := nB
                    clear n6 n5 nB
                    refine wpAnyH_take (i := 1) (v := ?_) rfl (by kernel_rfl) (by kernel_rfl) (by kernel_rfl) (fun _ _ _ h => h) (Or.inl ⟨by rfl, ?_⟩) trivial ?_
                    rotate_left
                    · intro w _
                      go_simp
                      try with_reducible rfl
                    show wpAnyH _ _ _ _ _ _ _ (Act.put _ (some 43) _) _
                    (try simp only [Act.put, List.setIfInBounds_toArray, List.set_cons_zero, List.set_cons_succ])
                    refine wpAnyH_ready (rs := [0]) (by kernel_rfl) (by simp) ?_
                    refine AllReadyH.cons rfl (fun K hK => ?_) AllReadyH.nil
                    show (if Region.wanted ⟨some 42, .load 26 (.tmp 5), _, _, _, none⟩ _ = true then Oper.wp _ ⟨some 42, .load 26 (.tmp 5), _, _, _, none⟩ _ _ _ _ else _)
                    have e0 := (blk_cell K5.out 0).trans (show _ = some (Value.int .u64 x2) from rfl)
                    have e1 := (blk_cell K5.out 1).trans (show _ = some (Value.int .u64 y2) from rfl)
                    go_simp
                    clear e0 e1
                    refine hK.out _ _ trivial (fun _ => ?_)
                    clear hK K
                    (try simp only [Act.put, List.setIfInBounds_toArray, List.set_cons_zero, List.set_cons_succ])
                    refine wpAnyH_ready (rs := [2]) (by kernel_rfl) (by simp) ?_
                    refine AllReadyH.cons rfl (fun K hK => ?_) AllReadyH.nil
                    show (if Region.wanted ⟨some 44, .call _, _, _, _, none⟩ _ = true then Oper.wp _ ⟨some 44, .call _, _, _, _, none⟩ _ _ _ _ else _)
                    go_simp
                    refine (set_Set_Has.calls _ _ _ _ _ _ HA.out).mono ?_
                    rintro e w7 ⟨rfl, hb⟩
                    have n6 := Aside0.mk (blk_below K6.out hb)
                    have n5 := Aside0.mk (blk_below K5.out hb)
                    have nB := Aside0.mk (below_step HB.out hb)
                    clear K6 K5 HB hb
                    have K6 := n6
                    have K5 := n5
                    have HB := nB
                    clear n6 n5 nB
                    refine hK.out _ _ trivial (fun _ => ?_)
                    clear hK K
                    (try simp only [Act.put, List.setIfInBounds_toArray, List.set_cons_zero, List.set_cons_succ])
                    refine wpAnyH_take (i := 3) (v := ?_) rfl (by kernel_rfl) (by kernel_rfl) (by kernel_rfl) (fun _ _ _ h => h) (Or.inl ⟨by rfl, ?_⟩) trivial ?_
                    rotate_left
                    · intro w _
                      go_simp
                      try with_reducible rfl
                    show wpAnyH _ _ _ _ _ _ _ (Act.put _ (some 45) _) _
                    (try simp only [Act.put, List.setIfInBounds_toArray, List.set_cons_zero, List.set_cons_succ])
                    refine wpAnyH_ready (rs := [4, 6]) (by kernel_rfl) (by simp) ?_
                    refine AllReadyH.cons rfl (fun K hK => ?_) ?_
                    · show (if Region.wanted ⟨some 46, .load 26 (.tmp 5), _, _, _, some (3, false)⟩ _ = true then Oper.wp _ ⟨some 46, .load 26 (.tmp 5), _, _, _, some (3, false)⟩ _ _ _ _ else _)
                      have e0 := (blk_cell K5.out 0).trans (show _ = some (Value.int .u64 x2) from rfl)
                      have e1 := (blk_cell K5.out 1).trans (show _ = some (Value.int .u64 y2) from rfl)
                      rw [if_pos (by rfl)]
                      go_simp
                      clear e0 e1
                      refine hK.out _ _ trivial (fun _ => ?_)
                      clear hK K
                      (try simp only [Act.put, List.setIfInBounds_toArray, List.set_cons_zero, List.set_cons_succ])
                      refine wpAnyH_ready (rs := [5, 6]) (by kernel_rfl) (by simp) ?_
                      refine AllReadyH.cons rfl (fun K hK => ?_) ?_
                      · show (if Region.wanted ⟨some 47, .call _, _, _, _, some (3, false)⟩ _ = true then Oper.wp _ ⟨some 47, .call _, _, _, _, some (3, false)⟩ _ _ _ _ else _)
                        rw [if_pos (by rfl)]
                        go_simp
                        have pc := fun W => kakugyolaw01_SetPuts.plain_calls x2 y2 W
                        rw [HE2.out] at pc
                        refine (pc _).mono ?_
                        rintro e w7 ⟨rfl, hb⟩
                        have n6 := Aside0.mk (blk_below K6.out hb)
                        have n5 := Aside0.mk (blk_below K5.out hb)
                        have nB := Aside0.mk (below_step HB.out hb)
                        clear K6 K5 HB hb
                        have K6 := n6
                        have K5 := n5
                        have HB := nB
                        clear n6 n5 nB
                        refine hK.out _ _ trivial (fun _ => ?_)
                        clear hK K
                        (try simp only [Act.put, List.setIfInBounds_toArray, List.set_cons_zero, List.set_cons_succ])
                        refine wpAnyH_ready (rs := [6]) (by kernel_rfl) (by simp) ?_
                        refine AllReadyH.cons rfl (fun K hK => ?_) AllReadyH.nil
                        show (if Region.wanted ⟨some 48, .load 29 (.tmp 6), _, _, _, some (3, false)⟩ _ = true then Oper.wp _ ⟨some 48, .load 29 (.tmp 6), _, _, _, some (3, false)⟩ _ _ _ _ else _)
                        rw [if_pos (by rfl)]
                        refine kakugyolaw01_SetPuts.wp_load (.tmp 6) rfl rfl K6.out HM2.out ?_
                        refine hK.out _ _ trivial (fun _ => ?_)
                        clear hK K
                        (try simp only [Act.put, List.setIfInBounds_toArray, List.set_cons_zero, List.set_cons_succ])
                        refine wpAnyH_ready (rs := [7]) (by kernel_rfl) (by simp) ?_
                        refine AllReadyH.cons rfl (fun K hK => ?_) AllReadyH.nil
                        show (if Region.wanted ⟨some 49, .binOp .neq 29 (.tmp 47) (.tmp 48) 29, _, _, _, some (3, false)⟩ _ = true then Oper.wp _ ⟨some 49, .binOp .neq 29 (.tmp 47) (.tmp 48) 29, _, _, _, some (3, false)⟩ _ _ _ _ else _)
                        rw [if_pos (by rfl)]
                        refine kakugyolaw01_SetPuts.neq m2 _ _ _ HM2.out _ _ (.tmp 47) (.tmp 48) rfl rfl rfl ?_
                        refine hK.out _ _ trivial (fun _ => ?_)
                        clear hK K
                        (try simp only [Act.put, List.setIfInBounds_toArray, List.set_cons_zero, List.set_cons_succ])
                        refine wpAnyH_take (i := 8) (v := ?_) rfl (by kernel_rfl) (by kernel_rfl) (by kernel_rfl) (fun _ _ _ h => h) (Or.inl ⟨by rfl, ?_⟩) trivial ?_
                        rotate_left
                        · intro w _
                          go_simp
                          try with_reducible rfl
                        show wpAnyH _ _ _ _ _ _ _ (Act.put _ (some 50) _) _
                        (try simp only [Act.put, List.setIfInBounds_toArray, List.set_cons_zero, List.set_cons_succ])
                        refine wpAnyH_done (by kernel_rfl) ?_ _
                        go_wp2
                        go_meet
                        exact ⟨rfl, K6, K5, HB⟩
                      refine AllReadyH.cons rfl (fun K hK => ?_) AllReadyH.nil
                      show (if Region.wanted ⟨some 48, .load 29 (.tmp 6), _, _, _, some (3, false)⟩ _ = true then Oper.wp _ ⟨some 48, .load 29 (.tmp 6), _, _, _, some (3, false)⟩ _ _ _ _ else _)
                      rw [if_pos (by rfl)]
                      refine kakugyolaw01_SetPuts.wp_load (.tmp 6) rfl rfl K6.out HM2.out ?_
                      refine hK.out _ _ trivial (fun _ => ?_)
                      clear hK K
                      (try simp only [Act.put, List.setIfInBounds_toArray, List.set_cons_zero, List.set_cons_succ])
                      refine wpAnyH_ready (rs := [5]) (by kernel_rfl) (by simp) ?_
                      refine AllReadyH.cons rfl (fun K hK => ?_) AllReadyH.nil
                      show (if Region.wanted ⟨some 47, .call _, _, _, _, some (3, false)⟩ _ = true then Oper.wp _ ⟨some 47, .call _, _, _, _, some (3, false)⟩ _ _ _ _ else _)
                      rw [if_pos (by rfl)]
                      go_simp
                      have pc := fun W => kakugyolaw01_SetPuts.plain_calls x2 y2 W
                      rw [HE2.out] at pc
                      refine (pc _).mono ?_
                      rintro e w7 ⟨rfl, hb⟩
                      have n6 := Aside0.mk (blk_below K6.out hb)
                      have n5 := Aside0.mk (blk_below K5.out hb)
                      have nB := Aside0.mk (below_step HB.out hb)
                      clear K6 K5 HB hb
                      have K6 := n6
                      have K5 := n5
                      have HB := nB
                      clear n6 n5 nB
                      refine hK.out _ _ trivial (fun _ => ?_)
                      clear hK K
                      (try simp only [Act.put, List.setIfInBounds_toArray, List.set_cons_zero, List.set_cons_succ])
                      refine wpAnyH_ready (rs := [7]) (by kernel_rfl) (by simp) ?_
                      refine AllReadyH.cons rfl (fun K hK => ?_) AllReadyH.nil
                      show (if Region.wanted ⟨some 49, .binOp .neq 29 (.tmp 47) (.tmp 48) 29, _, _, _, some (3, false)⟩ _ = true then Oper.wp _ ⟨some 49, .binOp .neq 29 (.tmp 47) (.tmp 48) 29, _, _, _, some (3, false)⟩ _ _ _ _ else _)
                      rw [if_pos (by rfl)]
                      refine kakugyolaw01_SetPuts.neq m2 _ _ _ HM2.out _ _ (.tmp 47) (.tmp 48) rfl rfl rfl ?_
                      refine hK.out _ _ trivial (fun _ => ?_)
                      clear hK K
                      (try simp only [Act.put, List.setIfInBounds_toArray, List.set_cons_zero, List.set_cons_succ])
                      refine wpAnyH_take (i := 8) (v := ?_) rfl (by kernel_rfl) (by kernel_rfl) (by kernel_rfl) (fun _ _ _ h => h) (Or.inl ⟨by rfl, ?_⟩) trivial ?_
                      rotate_left
                      · intro w _
                        go_simp
                        try with_reducible rfl
                      show wpAnyH _ _ _ _ _ _ _ (Act.put _ (some 50) _) _
                      (try simp only [Act.put, List.setIfInBounds_toArray, List.set_cons_zero, List.set_cons_succ])
                      refine wpAnyH_done (by kernel_rfl) ?_ _
                      go_wp2
                      go_meet
                      exact ⟨rfl, K6, K5, HB⟩
                    refine AllReadyH.cons rfl (fun K hK => ?_) AllReadyH.nil
                    show (if Region.wanted ⟨some 48, .load 29 (.tmp 6), _, _, _, some (3, false)⟩ _ = true then Oper.wp _ ⟨some 48, .load 29 (.tmp 6), _, _, _, some (3, false)⟩ _ _ _ _ else _)
                    rw [if_pos (by rfl)]
                    refine kakugyolaw01_SetPuts.wp_load (.tmp 6) rfl rfl K6.out HM2.out ?_
                    refine hK.out _ _ trivial (fun _ => ?_)
                    clear hK K
                    (try simp only [Act.put, List.setIfInBounds_toArray, List.set_cons_zero, List.set_cons_succ])
                    refine wpAnyH_ready (rs := [4]) (by kernel_rfl) (by simp) ?_
                    refine AllReadyH.cons rfl (fun K hK => ?_) AllReadyH.nil
                    show (if Region.wanted ⟨some 46, .load 26 (.tmp 5), _, _, _, some (3, false)⟩ _ = true then Oper.wp _ ⟨some 46, .load 26 (.tmp 5), _, _, _, some (3, false)⟩ _ _ _ _ else _)
                    have e0 := (blk_cell K5.out 0).trans (show _ = some (Value.int .u64 x2) from rfl)
                    have e1 := (blk_cell K5.out 1).trans (show _ = some (Value.int .u64 y2) from rfl)
                    rw [if_pos (by rfl)]
                    go_simp
                    clear e0 e1
                    refine hK.out _ _ trivial (fun _ => ?_)
                    clear hK K
                    (try simp only [Act.put, List.setIfInBounds_toArray, List.set_cons_zero, List.set_cons_succ])
                    refine wpAnyH_ready (rs := [5]) (by kernel_rfl) (by simp) ?_
                    refine AllReadyH.cons rfl (fun K hK => ?_) AllReadyH.nil
                    show (if Region.wanted ⟨some 47, .call _, _, _, _, some (3, false)⟩ _ = true then Oper.wp _ ⟨some 47, .call _, _, _, _, some (3, false)⟩ _ _ _ _ else _)
                    rw [if_pos (by rfl)]
                    go_simp
                    have pc := fun W => kakugyolaw01_SetPuts.plain_calls x2 y2 W
                    rw [HE2.out] at pc
                    refine (pc _).mono ?_
                    rintro e w7 ⟨rfl, hb⟩
                    have n6 := Aside0.mk (blk_below K6.out hb)
                    have n5 := Aside0.mk (blk_below K5.out hb)
                    have nB := Aside0.mk (below_step HB.out hb)
                    clear K6 K5 HB hb
                    have K6 := n6
                    have K5 := n5
                    have HB := nB
                    clear n6 n5 nB
                    refine hK.out _ _ trivial (fun _ => ?_)
                    clear hK K
                    (try simp only [Act.put, List.setIfInBounds_toArray, List.set_cons_zero, List.set_cons_succ])
                    refine wpAnyH_ready (rs := [7]) (by kernel_rfl) (by simp) ?_
                    refine AllReadyH.cons rfl (fun K hK => ?_) AllReadyH.nil
                    show (if Region.wanted ⟨some 49, .binOp .neq 29 (.tmp 47) (.tmp 48) 29, _, _, _, some (3, false)⟩ _ = true then Oper.wp _ ⟨some 49, .binOp .neq 29 (.tmp 47) (.tmp 48) 29, _, _, _, some (3, false)⟩ _ _ _ _ else _)
                    rw [if_pos (by rfl)]
                    refine kakugyolaw01_SetPuts.neq m2 _ _ _ HM2.out _ _ (.tmp 47) (.tmp 48) rfl rfl rfl ?_
                    refine hK.out _ _ trivial (fun _ => ?_)
                    clear hK K
                    (try simp only [Act.put, List.setIfInBounds_toArray, List.set_cons_zero, List.set_cons_succ])
                    refine wpAnyH_take (i := 8) (v := ?_) rfl (by kernel_rfl) (by kernel_rfl) (by kernel_rfl) (fun _ _ _ h => h) (Or.inl ⟨by rfl, ?_⟩) trivial ?_
                    rotate_left
                    · intro w _
                      go_simp
                      try with_reducible rfl
                    show wpAnyH _ _ _ _ _ _ _ (Act.put _ (some 50) _) _
                    (try simp only [Act.put, List.setIfInBounds_toArray, List.set_cons_zero, List.set_cons_succ])
                    refine wpAnyH_done (by kernel_rfl) ?_ _
                    go_wp2
                    go_meet
                    exact ⟨rfl, K6, K5, HB⟩
                  case rest =>
                    clear K6 K5 HB
                    obtain ⟨rfl, K6, K5, HB⟩ := hcut
                    go_wp2
                    go_roundg g'
                    case measure => omega
                    case rel => exact ⟨n + 1, x2, y2, m2, by simp, by omega, HM2.out, HP2, K6, K5, HB, by omega⟩
              · rw [if_neg hc] at e3
                cases e3
      · have hlt : n < l0.length := by omega
        have b0 : decide ((n : Int) < (l0.length : Int)) = true := decide_eq_true (by omega)
        obtain ⟨ad, ea, g⟩ := Kd.at_int (Kd.C_below R0.out HB.out) n (by omega) (by omega)
        cases ea
        have b2 : (0 ≤ (n : Int) ∧ (n : Int) < (l0.length : Int)) = True := eq_true (by omega)
        rw [show ((n : Int)).toNat = n by omega] at g
        have hq : ∃ q, q = rd l0 n := ⟨_, rfl⟩
        obtain ⟨q, hq⟩ := hq
        rw [← hq] at g
        have hP2 : kakugyolaw01_SetPuts.puts (kakugyolaw01_SetPuts.putL m q true) (l0.drop (n + 1)) = F := by
          have e := HP.out
          rw [List.drop_eq_getElem_cons hlt] at e
          have eq2 : l0[n] = q := by rw [hq]; unfold rd; rw [show ((n : Int)).toNat = n by omega, List.getD_eq_getElem?_getD, List.getElem?_eq_getElem hlt]; rfl
          rw [eq2] at e
          exact e
        have HP2 := Aside0.mk hP2
        have hml2 : (kakugyolaw01_SetPuts.putL m q true).length = 81 := by rw [kakugyolaw01_SetPuts.putL_len, hml]
        have hbs : (kakugyolaw01_SetPuts.bv m).size = 81 := by rw [kakugyolaw01_SetPuts.bv_size, hml]
        have HM2 := Aside0.mk hml2
        have HBS := Aside0.mk hbs
        have HQ := Aside0.mk hq
        have ew : IntKind.i64.wrap ((n : Int) + 1) = (n : Int) + 1 := IntWalk.i64_in _ (by omega)
        obtain ⟨g', rfl⟩ : ∃ g', gk = g' + 1 := ⟨gk - 1, by omega⟩
        clear hP2 hml2 hbs hq HP
        go_wp2_with (first | ((with_reducible refine gate_dst (N := 22) rfl ?_); refine kakugyolaw01_SetPuts.load rfl (.tmp 6) rfl rfl K6.out hml ?_) | (go_at_call 9; refine (kakugyolaw01_SetPuts.put_calls _ _ _ _ hml).mono ?_; rintro e w7 ⟨rfl, hb⟩; have J6 := Aside0.mk (blk_below K6.out hb); have J5 := Aside0.mk (blk_below K5.out hb); have JB := Aside0.mk (below_step HB.out hb); clear hb K6 K5 HB) | ((with_reducible refine gate_store (t := 29) (p := 6) (v := .tmp 24) rfl ?_); refine kakugyolaw01_SetPuts.store rfl (.tmp 6) (.tmp 24) rfl rfl rfl J6.out HBS.out HM2.out ?_; intro W3 s1 s2 s3 s4; have L6 := Aside0.mk s1; have L5 := Aside0.mk ((s3 g5 (by omega)).trans J5.out); have LB := Aside0.mk (s2 w.heap.size w (Nat.le_succ_of_le HG.out) JB.out); clear s1 s2 s3 s4 J6 J5 JB))
        go_roundg g'
        case measure => omega
        case rel => exact ⟨n + 1, kakugyolaw01_SetPuts.putL m q true, by simp, by omega, HM2.out, HP2, L6, L5, LB, by omega⟩
  · rw [if_neg hc] at h3
    cases h3

/-- THE ONE PURE STATEMENT of kakugyolaw01_SetPuts: yours. -/
def kakugyolaw01_SetPuts.Pure : Prop := ∀ (l0 : List Int) (l1 : List Int), l0.length ≤ maxLen → l0.length * 8 ≤ 140737488351232 → (∀ x ∈ l0, (Lit.int .i64 x).wf = true) → l1.length ≤ maxLen → l1.length * 8 ≤ 140737488351232 → (∀ x ∈ l1, (Lit.int .i64 x).wf = true) → kakugyolaw01_SetPuts.f l0 l1 = some true
theorem kakugyolaw01_SetPuts.walk (P : kakugyolaw01_SetPuts.Pure) (a0 : Option Addr) (len0 cap0 : Nat) (z0 : List Int) (a1 : Option Addr) (len1 cap1 : Nat) (z1 : List Int) (w : World) (hT : bits_TrailingZeros64.Tab w) (w0 : (a0 = none ∧ len0 = 0 ∧ cap0 = 0 ∧ z0 = []) ∨ ∃ x, a0 = some x ∧ len0 ≤ cap0 ∧ cap0 ≤ maxLen ∧ z0.length = cap0 ∧ (∀ i, i < z0.length → w.cell? (x.add i) = some (.int .i64 (z0.getD i 0))) ∧ ∀ n ∈ z0, (Lit.int .i64 n).wf = true) (y0 : len0 * 8 ≤ 140737488351232) (w1 : (a1 = none ∧ len1 = 0 ∧ cap1 = 0 ∧ z1 = []) ∨ ∃ x, a1 = some x ∧ len1 ≤ cap1 ∧ cap1 ≤ maxLen ∧ z1.length = cap1 ∧ (∀ i, i < z1.length → w.cell? (x.add i) = some (.int .i64 (z1.getD i 0))) ∧ ∀ n ∈ z1, (Lit.int .i64 n).wf = true) (y1 : len1 * 8 ≤ 140737488351232) :
    Calls Tryd.prog 3 #[.slice a0 len0 cap0, .slice a1 len1 cap1] w fun e w' => e = .returned (.bool true) ∧ Below w.heap.size w w' := by
  obtain ⟨l0, rfl, hr0, hm0, hw0, hc0⟩ := ReadsInt.ofRowC w0
  obtain ⟨l1, rfl, hr1, hm1, hw1, hc1⟩ := ReadsInt.ofRowC w1
  have h := P l0 l1 hm0 y0 hw0 hm1 y1 hw1
  refine (kakugyolaw01_SetPuts.calls _ _ l0 _ _ l1 true w hT (Kd.C_of_reads (d := (0 : Int)) (h1 := fun _ => rfl) hr0) hc0 (Kd.C_of_reads (d := (0 : Int)) (h1 := fun _ => rfl) hr1) hc1 h).mono ?_
  rintro e w' ⟨rfl, hd⟩
  exact ⟨rfl, hd⟩

end Go.Proofs.YtmoeodcmfjnihaaDoor.Pa
