-- Printed by a program of this session: the kit's printer, with contracts of this session's own among its functions.
import Derived.Test.YtmoeodcmfjnihabPax0
import Derived.Test.YtmoeodcmfjnihabPax1
namespace Go.Proofs.Ytmoeodcmfjnihab.Pa
open Go.RowKit Go.Proofs.YtmoeodcmfjnihabW.PrintWords Go.Proofs.YtmoeodcmfjnihabW.PrintLast Go.Proofs.YtmoeodcmfjnihabW.PrintMore
attribute [local go_sem] max2_int min2_int max_two min_two max_three min_three max_four min_four   -- for this text's walks alone
set_option linter.unusedVariables false
set_option linter.unusedSimpArgs false

/-! ### value_Of: function 19 -/
def value_Of.pv (l : List Int) : Array Value := (l.map (Value.int .i8)).toArray
theorem value_Of.pv_size (l : List Int) : (value_Of.pv l).size = l.length := by simp [value_Of.pv]
theorem value_Of.pv_one (l : List Int) : (value_Of.pv l).all (·.oneCell') = true := all_oneCell_toArray (fun v hv => by
  obtain ⟨b, _, rfl⟩ := List.mem_map.1 hv
  rfl)
theorem value_Of.pv_get (l : List Int) (i : Nat) (h : i < l.length) : (value_Of.pv l)[i]? = some (.int .i8 (l.getD i 0)) := by
  simp [value_Of.pv, List.getD_eq_getElem?_getD, List.getElem?_eq_getElem h]
theorem value_Of.pv_set (l : List Int) (i : Nat) (b : Int) : (value_Of.pv l).setIfInBounds i (.int .i8 b) = value_Of.pv (l.set i b) := by
  simp [value_Of.pv, List.map_set]
theorem value_Of.rng {W : World} {g : Nat} {l : List Int} {t : TypeId} (h : W.heap[g]? = some (.cells (value_Of.pv l) t (0, 0))) (o n : Nat) : W.rangeAt g o (((l.drop o).take n).map (Value.int .i8)) := fun j v hj => by
  rw [blk_cell h (o + j)]
  rw [List.getElem?_map] at hj
  rw [List.getElem?_take] at hj
  split at hj
  · rw [List.getElem?_drop] at hj
    simpa [value_Of.pv] using hj
  · simp at hj
section
variable {ops : Array Oper} {rest : List Oper} {o : Oper} {a : Act} {Q : Exit → Act → World → Prop} {W : World} {K : Act → World → Prop}
/-- A part of a position (or all of it) is loaded as a row. -/
theorem value_Of.wp_load (ty : TypeId) (x : Operand) (ho : o.op = .load ty x) {g off n : Nat} {t : TypeId} {l : List Int} {d : TypeDesc} (hx : a.eval x = .pointer (some ⟨g, off, none⟩)) (hb : W.heap[g]? = some (.cells (value_Of.pv l) t (0, 0))) (hu : Try.prog.underlying ty = some d) (hd : d.isRow = true) (hi : (Try.prog.info? ty).map (·.size) = some n) (hl : off + n ≤ l.length)
    (h : K (a.put o.dst (.agg (value_Of.pv ((l.drop off).take n)))) W) : Oper.wp Try.prog o a W K Q :=
  wp_load_mid _ x ho g off hx (((l.drop off).take n).map (Value.int .i8)) d (value_Of.rng hb off n) hu hd (by rw [hi]; simp; omega) h
theorem value_Of.load (hgd : o.guard = none) (ty : TypeId) (x : Operand) (ho : o.op = .load ty x) {g off n : Nat} {t : TypeId} {l : List Int} {d : TypeDesc} (hx : a.eval x = .pointer (some ⟨g, off, none⟩)) (hb : W.heap[g]? = some (.cells (value_Of.pv l) t (0, 0))) (hu : Try.prog.underlying ty = some d) (hd : d.isRow = true) (hi : (Try.prog.info? ty).map (·.size) = some n) (hl : off + n ≤ l.length)
    (h : wpList Try.prog ops Q rest (a.put o.dst (.agg (value_Of.pv ((l.drop off).take n)))) W) : wpList Try.prog ops Q (o :: rest) a W :=
  wpList_plain hgd fun _ hK => value_Of.wp_load ty x ho hx hb hu hd hi hl (hK _ _ h)
end
theorem value_Of.index (t e : TypeId) (N n : Nat) (l : List Int) (W : World) (hu : Try.prog.underlying t = some (.array N e)) (he : Try.prog.plainKey e = true) (hi : (Try.prog.info? e).isSome = true) (hc : Try.prog.cellsOf e = 1) (hn : n < N) (hl : n < l.length) : (Instr.index t (.agg (value_Of.pv l)) (.int .i64 (n : Int))).run Try.prog W = .ok (.int .i8 (l.getD n 0)) W := by
  obtain ⟨i, hi1⟩ := Option.isSome_iff_exists.1 hi
  have hp := run_part_plain W he (value_Of.pv_get l n hl)
  have hs := run_sizeOf W hi1
  have h1 : (n : Int) < (N : Int) := by omega
  simp only [Instr.index, asIntOf, Sem.run_bind, run_underlying hu, hs, Sem.run_pure, Result.andThen_ok, hc, Int.toNat_natCast, Nat.mul_one]
  rw [if_pos ⟨by omega, h1⟩]
  simp only [Sem.run_bind, hs, Result.andThen_ok, hc, Nat.mul_one]
  exact hp
theorem value_Of.infoP : (Try.prog.info? 33).map (·.size) = some 98 := by kernel_rfl
theorem value_Of.infoB : (Try.prog.info? 29).map (·.size) = some 81 := by kernel_rfl
theorem value_Of.infoH : (Try.prog.info? 31).map (·.size) = some 16 := by kernel_rfl
theorem value_Of.info8 : (Try.prog.info? 30).map (·.size) = some 8 := by kernel_rfl
theorem value_Of.thr {W : World} {g : Nat} {C : Array Value} {t : TypeId} (h : W.heap[g]? = some (.cells C t (0, 0))) (n : Nat) (hn : n ≤ C.size) : W.there g 0 n := fun j hj => by
  rw [Nat.zero_add, blk_cell h j]
  exact ⟨by simp [show j < C.size by omega], blk_frozen h j⟩
/-- A whole row is stored. -/
theorem value_Of.store {ops : Array Oper} {rest : List Oper} {o : Oper} {a : Act} {Q : Exit → Act → World → Prop} {W : World} (hgd : o.guard = none) (ty : TypeId) (x y : Operand) (ho : o.op = .store ty x y) {g n : Nat} {t : TypeId} {l : List Int} {C : Array Value} (hx : a.eval x = .pointer (some ⟨g, 0, none⟩)) (hy : a.eval y = .agg (value_Of.pv l)) (hb : W.heap[g]? = some (.cells C t (0, 0))) (hC : C.size = n) (hl : l.length = n) (hi : (Try.prog.info? ty).map (·.size) = some n)
    (h : ∀ W', W'.heap[g]? = some (.cells (value_Of.pv l) t (0, 0)) → (∀ B w0, B ≤ g → Below B w0 W → Below B w0 W') → (∀ k, k ≠ g → W'.heap[k]? = W.heap[k]?) → wpList Try.prog ops Q rest (a.put o.dst undef) W') : wpList Try.prog ops Q (o :: rest) a W := by
  have hsz : (value_Of.pv l).size = n := by rw [value_Of.pv_size, hl]
  refine wpList_plain hgd fun _ hK => wp_store_mid _ x y ho g 0 (value_Of.pv l) hx hy (value_Of.thr hb _ (by omega)) (by rw [hi, hsz]) (value_Of.pv_one l) (hK _ _ ?_)
  obtain ⟨cur', h1, h2, h3⟩ := setCells_row (value_Of.pv l).toList 0 W C hb (by rw [Array.length_toList]; omega)
  have e : cur' = value_Of.pv l := by
    apply Array.toList_inj.1
    rw [h3]
    simp only [List.take_zero, List.nil_append, Nat.zero_add]
    rw [List.drop_of_length_le (by rw [Array.length_toList, Array.length_toList]; omega), List.append_nil]
  rw [e] at h1
  exact h _ h1 (fun B w0 hB hb0 => below_setCells hB _ 0 W hb0) (fun k hk => setCells_far _ 0 k hk)
theorem value_Of.index8 (n : Nat) (l : List Int) (W : World) (hn : n < 2) (hl : l.length = 16) : (Instr.index 31 (.agg (value_Of.pv l)) (.int .i64 (n : Int))).run Try.prog W = .ok (.agg (value_Of.pv ((l.drop (n * 8)).take 8))) W := by
  have hi : (Try.prog.info? 30).isSome = true := by kernel_rfl
  obtain ⟨i, hi1⟩ := Option.isSome_iff_exists.1 hi
  have hc : Try.prog.cellsOf 30 = 8 := by kernel_rfl
  have hs := run_sizeOf W hi1
  have h1 : (n : Int) < ((2 : Nat) : Int) := by omega
  simp only [Instr.index, asIntOf, Sem.run_bind, run_underlying Try.underlying31, Sem.run_pure, Result.andThen_ok, Int.toNat_natCast]
  rw [if_pos ⟨by omega, h1⟩]
  simp only [Sem.run_bind, hs, Result.andThen_ok, hc, part, isAgg, run_underlying Try.underlying30, Sem.run_pure, if_true]
  congr 2
  apply Array.toList_inj.1
  simp [value_Of.pv, List.map_drop, List.map_take]
def value_Of.addTo (s d x y : Int) : Int × Int := if s = 0 then (wrap64 (x + d), y) else (x, wrap64 (y + d))
def value_Of.cell (q : Nat) (v x y : Int) : Option (Int × Int) := (piece_Side.f 9 v).bind fun s =>
  if s ≥ 0 then (piece_Kind.f 9 v).bind fun kd => if kd = 8 then some (x, y) else (value_Piece.f 30 kd).bind fun p => (value_Square.f (q : Int)).bind fun e => if s = 0 ∨ s = 1 then some (value_Of.addTo s (wrap64 (p + e)) x y) else none
  else some (x, y)
def value_Of.board : List Int → Nat → Int → Int → Option (Int × Int)
  | [], _, x, y => some (x, y)
  | v :: l, q, x, y => (value_Of.cell q v x y).bind fun t => value_Of.board l (q + 1) t.1 t.2
def value_Of.hand (s : Int) : List Int → Nat → Int → Int → Option (Int × Int)
  | [], _, x, y => some (x, y)
  | c :: l, q, x, y => (value_Hand.f 30 (q : Int)).bind fun h => value_Of.hand s l (q + 1) (value_Of.addTo s (wrap64 (wrap64 c * h)) x y).1 (value_Of.addTo s (wrap64 (wrap64 c * h)) x y).2
def value_Of.hands (hs : List Int) : Nat → Int → Int → Option (Int × Int)
  | 0, x, y => (value_Of.hand 0 ((hs.drop (0 * 8)).take 8) 0 x y).bind fun t => value_Of.hand 1 ((hs.drop (1 * 8)).take 8) 0 t.1 t.2
  | 1, x, y => value_Of.hand 1 ((hs.drop (1 * 8)).take 8) 0 x y
  | _, x, y => some (x, y)
def value_Of.f (cs : List Int) : Option Int := (value_Of.board (cs.take 81) 0 0 0).bind fun t => (value_Of.hands ((cs.drop 81).take 16) 0 t.1 t.2).bind fun u => some (if cs.getD 97 0 = 1 then wrap64 (u.2 - u.1) else wrap64 (u.1 - u.2))
set_option maxRecDepth 100000 in
set_option maxHeartbeats 8000000 in
theorem value_Of.of_calls (cs : List Int) (w : World) (r : Int) (hl : cs.length = 98) (h : value_Of.f cs = some r) :
    Calls Try.prog 19 #[.agg (value_Of.pv cs)] w fun e w' => e = .returned (.int .i64 r) ∧ Below w.heap.size w w' := by
  unfold value_Of.f at h
  obtain ⟨⟨X, Y⟩, hb, h2⟩ := Option.bind_eq_some_iff.mp h
  obtain ⟨⟨X2, Y2⟩, hh, h3⟩ := Option.bind_eq_some_iff.mp h2
  dsimp only at hh h3
  have hr := Option.some.inj h3
  have HRR := Aside0.mk hr
  clear h h2 h3 hr
  go_enter Try.func19, Try.ntmps19
  go_upto_region 2 with (fail)
  have B1 : ((w.alloc (Obj.cells (value_Of.pv cs) 33)).alloc (Obj.cells #[.int .i64 0, .int .i64 0] 57)).heap[w.heap.size]? = some (.cells (value_Of.pv cs) 33 (0, 0)) := blk_alloc (blk_new w _) _
  have B3 : ((w.alloc (Obj.cells (value_Of.pv cs) 33)).alloc (Obj.cells #[.int .i64 0, .int .i64 0] 57)).heap[w.heap.size + 1]? = some (.cells #[.int .i64 0, .int .i64 0] 57 (0, 0)) := by
    have e := blk_new (w.alloc (Obj.cells (value_Of.pv cs) 33)) (Obj.cells #[.int .i64 0, .int .i64 0] 57)
    have e2 : (w.alloc (Obj.cells (value_Of.pv cs) 33)).heap.size = w.heap.size + 1 := by simp [go_sem]
    rw [e2] at e
    exact e
  have BB : Below w.heap.size w ((w.alloc (Obj.cells (value_Of.pv cs) 33)).alloc (Obj.cells #[.int .i64 0, .int .i64 0] 57)) := below_alloc (below_alloc (Below.refl _ _) _) _
  generalize (w.alloc (Obj.cells (value_Of.pv cs) 33)).alloc (Obj.cells #[.int .i64 0, .int .i64 0] 57) = W at *
  have K1 := Aside0.mk B1
  have K3 := Aside0.mk B3
  have KB := Aside0.mk BB
  clear B1 B3 BB
  obtain ⟨bs, hbs⟩ : ∃ bs, bs = (cs.drop 0).take 81 := ⟨_, rfl⟩
  rw [show cs.take 81 = bs from hbs.symm] at hb
  have HBD := Aside0.mk hb
  clear hb
  have hbl : bs.length = 81 := by rw [hbs]; simp; omega
  have HBS := Aside0.mk hbs
  clear hbs
  go_wp2_with (first | ((with_reducible refine gate_dst (N := 12) rfl ?_); refine value_Of.load rfl 29 (.tmp 11) rfl rfl K1.out Try.underlying29 rfl value_Of.infoB (by omega) ?_; rw [← HBS.out]))
  go_loopg [13] 82 (fun gf s13 wx => ∃ (n : Nat) (x y : Int), s13 = .int .i64 n ∧ n ≤ 81 ∧ Aside0 (value_Of.board (bs.drop n) n x y = some (X, Y)) ∧ Aside0 (wx.heap[w.heap.size]? = some (.cells (value_Of.pv cs) 33 (0, 0))) ∧ Aside0 (wx.heap[w.heap.size + 1]? = some (.cells #[.int .i64 x, .int .i64 y] 57 (0, 0))) ∧ Aside0 (Below w.heap.size w wx) ∧ 82 ≤ gf + n)
  case atStart => exact ⟨0, 0, 0, rfl, by omega, ⟨by rw [List.drop_zero]; exact HBD.out⟩, K1, K3, KB, by omega⟩
  case round =>
    clear K1 K3 KB
    obtain ⟨n, x, y, rfl, hn, HR, K1, K3, KB, hgf⟩ := hrel
    by_cases hend : n = 81
    · have e := HR.out
      rw [hend, List.drop_of_length_le (by omega)] at e
      simp only [value_Of.board, Option.some.injEq, Prod.mk.injEq] at e
      obtain ⟨rfl, rfl⟩ := e
      clear HR HBD HBS
      subst hend
      obtain ⟨hs, hhs⟩ : ∃ hs, hs = (cs.drop 81).take 16 := ⟨_, rfl⟩
      have hsl : hs.length = 16 := by rw [hhs]; simp; omega
      rw [← hhs] at hh
      have HHS := Aside0.mk hhs
      have HH2 := Aside0.mk hh
      clear hhs hh
      go_wp2_with (first | ((with_reducible refine gate_dst (N := 39) rfl ?_); refine value_Of.load rfl 31 (.tmp 38) rfl rfl K1.out Try.underlying31 rfl value_Of.infoH (by omega) ?_; rw [← HHS.out]))
      go_loopg [40] 3 (fun gf s40 wx => ∃ (i : Nat) (u v : Int), s40 = .int .i64 i ∧ i ≤ 2 ∧ Aside0 (value_Of.hands hs i u v = some (X2, Y2)) ∧ Aside0 (wx.heap[w.heap.size]? = some (.cells (value_Of.pv cs) 33 (0, 0))) ∧ Aside0 (wx.heap[w.heap.size + 1]? = some (.cells #[.int .i64 u, .int .i64 v] 57 (0, 0))) ∧ Aside0 (Below w.heap.size w wx) ∧ 3 ≤ gf + i)
      case atStart => exact ⟨0, x, y, rfl, by omega, HH2, K1, K3, KB, by omega⟩
      case round =>
        clear K1 K3 KB HH2
        obtain ⟨i, u, v, rfl, hi, HR, K1, K3, KB, hgf2⟩ := hrel
        by_cases hi2 : i = 2
        · subst hi2
          have e := HR.out
          simp only [value_Of.hands, Option.some.injEq, Prod.mk.injEq] at e
          obtain ⟨rfl, rfl⟩ := e
          have hrr := HRR.out
          have c97 : wr.cell? ⟨w.heap.size, 97, none⟩ = some (.int .i8 (cs.getD 97 0)) := (blk_cell K1.out 97).trans (value_Of.pv_get cs 97 (by omega))
          have d0 : wr.cell? ⟨w.heap.size + 1, 0, none⟩ = some (.int .i64 u) := (blk_cell K3.out 0).trans rfl
          have d1 : wr.cell? ⟨w.heap.size + 1, 1, none⟩ = some (.int .i64 v) := (blk_cell K3.out 1).trans rfl
          obtain ⟨sd, hsd⟩ : ∃ sd, sd = cs.getD 97 0 := ⟨_, rfl⟩
          rw [← hsd] at c97 hrr
          have HSD := Aside0.mk hsd
          clear hsd HR HRR
          by_cases h1 : sd = 1
          · rw [if_pos h1] at hrr
            have c1 : (sd == 1) = true := by simpa using h1
            subst hrr
            go_wp2
            go_ret
            exact ⟨rfl, KB.out⟩
          · rw [if_neg h1] at hrr
            have c1 : (sd == 1) = false := by simpa using h1
            subst hrr
            go_wp2
            go_ret
            exact ⟨rfl, KB.out⟩
        · have b0 : decide ((i : Int) < 2) = true := decide_eq_true (by omega)
          have hix : ∀ W, (Instr.index 31 (.agg (value_Of.pv hs)) (.int .i64 (i : Int))).run Try.prog W = .ok (.agg (value_Of.pv ((hs.drop (i * 8)).take 8))) W := fun W => value_Of.index8 i hs W (by omega) hsl
          obtain ⟨l8, hl8⟩ : ∃ l8, l8 = (hs.drop (i * 8)).take 8 := ⟨_, rfl⟩
          have hll : l8.length = 8 := by rw [hl8]; simp; omega
          rw [← hl8] at hix
          have HL8 := Aside0.mk hl8
          clear hl8
          obtain ⟨g2, rfl⟩ : ∃ g2, gk = g2 + 1 := ⟨gk - 1, by omega⟩
          obtain rfl | rfl : i = 0 ∨ i = 1 := by omega
          · have hsplit : ∃ t1 t2, value_Of.hand 0 l8 0 u v = some (t1, t2) ∧ value_Of.hands hs 1 t1 t2 = some (X2, Y2) := by
              have e := HR.out
              simp only [value_Of.hands] at e
              obtain ⟨⟨t1, t2⟩, e1, e2⟩ := Option.bind_eq_some_iff.mp e
              exact ⟨t1, t2, by rw [HL8.out]; exact e1, e2⟩
            obtain ⟨t1, t2, ha, hb⟩ := hsplit
            have HA := Aside0.mk ha
            have HB2 := Aside0.mk hb
            clear ha hb HR
            have hix0 : ∀ W, (Instr.index 31 (.agg (value_Of.pv hs)) (.int .i64 0)).run Try.prog W = .ok (.agg (value_Of.pv l8)) W := hix
            clear hix
            have l1 := blk_lt K1.out
            have l3 := blk_lt K3.out
            go_upto_region 12 with (first | ((with_reducible refine gate_store (t := 30) (p := 8) (v := .tmp 43) rfl ?_); refine value_Of.store rfl 30 (.tmp 8) (.tmp 43) rfl rfl rfl (blk_new _ _) rfl hll value_Of.info8 ?_; intro W3 s1 s2 s3))
            have n1 := Aside0.mk ((s3 w.heap.size (by omega)).trans (blk_alloc K1.out _))
            have n3 := Aside0.mk ((s3 (w.heap.size + 1) (by omega)).trans (blk_alloc K3.out _))
            have nB := Aside0.mk (s2 w.heap.size w (by omega) (below_alloc KB.out _))
            have K8 := Aside0.mk s1
            clear K1 K3 KB s1 s2 s3 l1 l3 hix0
            have K1 := n1
            have K3 := n3
            have KB := nB
            clear n1 n3 nB
            generalize wr.heap.size = g8 at *
            go_wp2_with (first | ((with_reducible refine gate_dst (N := 44) rfl ?_); refine value_Of.load rfl 30 (.tmp 8) rfl rfl K8.out Try.underlying30 rfl value_Of.info8 (by omega) ?_; rw [show (l8.drop 0).take 8 = l8 by rw [List.drop_zero, List.take_of_length_le (by omega)]]))
            go_loopg [45] 9 (fun gf s45 wx => ∃ (m : Nat) (a b : Int), s45 = .int .i64 m ∧ m ≤ 8 ∧ Aside0 (value_Of.hand 0 (l8.drop m) m a b = some (t1, t2)) ∧ Aside0 (wx.heap[w.heap.size]? = some (.cells (value_Of.pv cs) 33 (0, 0))) ∧ Aside0 (wx.heap[w.heap.size + 1]? = some (.cells #[.int .i64 a, .int .i64 b] 57 (0, 0))) ∧ Aside0 (Below w.heap.size w wx) ∧ 9 ≤ gf + m)
            case atStart => exact ⟨0, u, v, rfl, by omega, ⟨by rw [List.drop_zero]; exact HA.out⟩, K1, K3, KB, by omega⟩
            case round =>
              clear K1 K3 KB HA K8
              obtain ⟨m, a, b, rfl, hm, HR3, K1, K3, KB, hgf3⟩ := hrel
              by_cases hm8 : m = 8
              · have e := HR3.out
                rw [hm8, List.drop_of_length_le (by omega)] at e
                simp only [value_Of.hand, Option.some.injEq, Prod.mk.injEq] at e
                obtain ⟨rfl, rfl⟩ := e
                clear HR3
                subst hm8
                go_wp2
                go_roundg g2
                case measure => omega
                case rel => exact ⟨1, a, b, by simp, by omega, HB2, K1, K3, KB, by omega⟩
              · have c0 : decide ((m : Int) < 8) = true := decide_eq_true (by omega)
                have hix3 : ∀ W, (Instr.index 30 (.agg (value_Of.pv l8)) (.int .i64 (m : Int))).run Try.prog W = .ok (.int .i8 (l8.getD m 0)) W := fun W => value_Of.index 30 27 8 m l8 W Try.underlying30 (by kernel_rfl) (by kernel_rfl) (by kernel_rfl) (by omega) (by omega)
                obtain ⟨c, hc⟩ : ∃ c, c = l8.getD m 0 := ⟨_, rfl⟩
                rw [← hc] at hix3
                have e := HR3.out
                rw [List.drop_eq_getElem_cons (show m < l8.length by omega)] at e
                have ev : l8[m]'(by omega) = c := by rw [hc, List.getD_eq_getElem?_getD, List.getElem?_eq_getElem (by omega)]; rfl
                rw [ev] at e
                unfold value_Of.hand at e
                obtain ⟨h, hh3, e2⟩ := Option.bind_eq_some_iff.mp e
                have e3 : value_Of.hand 0 (l8.drop (m + 1)) (m + 1) (wrap64 (a + wrap64 (wrap64 c * h))) (b) = some (t1, t2) := e2
                have HH3 := Aside0.mk hh3
                have HE3 := Aside0.mk e3
                clear e3
                have HC := Aside0.mk hc
                have ew : IntKind.i64.wrap ((m : Int) + 1) = (m : Int) + 1 := IntWalk.i64_in _ (by omega)
                obtain ⟨g3, rfl⟩ : ∃ g3, gk = g3 + 1 := ⟨gk - 1, by omega⟩
                clear e e2 ev hh3 hc HR3
                go_upto_region 15 with (fail)
                clear hix3
                refine wp_region_held_drew (S := fun _ => True) (by kernel_rfl) trivial (fun _ => ?_)
                have n_K1 := Aside0.mk (blk_drew K1.out)
                have n_K3 := Aside0.mk (blk_drew K3.out)
                have n_KB := Aside0.mk (below_drew KB.out)
                clear K1 K3 KB
                have K1 := n_K1
                have K3 := n_K3
                have KB := n_KB
                clear n_K1 n_K3 n_KB
                refine wpAnyH_take (i := 0) (v := ?_) rfl (by kernel_rfl) (by kernel_rfl) (by kernel_rfl) (fun _ _ _ h => h) (Or.inl ⟨by rfl, ?_⟩) trivial ?_
                rotate_left
                · intro w _
                  go_simp
                  try with_reducible rfl
                show wpAnyH _ _ _ _ _ _ _ (Act.put _ (some 49) _) _
                (try simp only [Act.put, List.setIfInBounds_toArray, List.set_cons_zero, List.set_cons_succ])
                refine wpAnyH_take (i := 1) (v := ?_) rfl (by kernel_rfl) (by kernel_rfl) (by kernel_rfl) (fun _ _ _ h => h) (Or.inl ⟨by rfl, ?_⟩) trivial ?_
                rotate_left
                · intro w _
                  go_simp
                  try with_reducible rfl
                show wpAnyH _ _ _ _ _ _ _ (Act.put _ (some 50) _) _
                (try simp only [Act.put, List.setIfInBounds_toArray, List.set_cons_zero, List.set_cons_succ])
                refine wpAnyH_take (i := 3) (v := ?_) rfl (by kernel_rfl) (by kernel_rfl) (by kernel_rfl) (fun _ _ _ h => h) (Or.inl ⟨by rfl, ?_⟩) trivial ?_
                rotate_left
                · intro w _
                  go_simp
                  try with_reducible rfl
                show wpAnyH _ _ _ _ _ _ _ (Act.put _ (some 52) _) _
                (try simp only [Act.put, List.setIfInBounds_toArray, List.set_cons_zero, List.set_cons_succ])
                refine wpAnyH_take (i := 4) (v := ?_) rfl (by kernel_rfl) (by kernel_rfl) (by kernel_rfl) (fun _ _ _ h => h) (Or.inl ⟨by rfl, ?_⟩) trivial ?_
                rotate_left
                · intro w _
                  go_simp
                  try with_reducible rfl
                show wpAnyH _ _ _ _ _ _ _ (Act.put _ (some 53) _) _
                (try simp only [Act.put, List.setIfInBounds_toArray, List.set_cons_zero, List.set_cons_succ])
                refine wpAnyH_take (i := 5) (v := ?_) rfl (by kernel_rfl) (by kernel_rfl) (by kernel_rfl) (fun _ _ _ h => h) (Or.inl ⟨by rfl, ?_⟩) trivial ?_
                rotate_left
                · intro w _
                  go_simp
                  try with_reducible rfl
                show wpAnyH _ _ _ _ _ _ _ (Act.put _ (some 54) _) _
                (try simp only [Act.put, List.setIfInBounds_toArray, List.set_cons_zero, List.set_cons_succ])
                refine wpAnyH_ready (rs := [2, 6]) (by kernel_rfl) (by simp) ?_
                refine AllReadyH.cons rfl (fun K hK => ?_) ?_
                · show (if Region.wanted ⟨some 51, .load _ (.tmp 50), _, _, _, none⟩ _ = true then Oper.wp _ ⟨some 51, .load _ (.tmp 50), _, _, _, none⟩ _ _ _ _ else _)
                  have e0 := (blk_cell K3.out 0).trans (show _ = some (Value.int .i64 a) from rfl)
                  go_simp
                  clear e0
                  refine hK.out _ _ trivial (fun _ => ?_)
                  clear hK K
                  (try simp only [Act.put, List.setIfInBounds_toArray, List.set_cons_zero, List.set_cons_succ])
                  refine wpAnyH_ready (rs := [6]) (by kernel_rfl) (by simp) ?_
                  refine AllReadyH.cons rfl (fun K hK => ?_) AllReadyH.nil
                  show (if Region.wanted ⟨some 55, .call _, _, _, _, none⟩ _ = true then Oper.wp _ ⟨some 55, .call _, _, _, _, none⟩ _ _ _ _ else _)
                  go_simp
                  refine (value_Hand.calls _ _ _ _ HH3.out).mono ?_
                  rintro e w7 ⟨rfl, hd⟩
                  have hb := hd.below
                  have n_K1 := Aside0.mk (blk_below K1.out hb)
                  have n_K3 := Aside0.mk (blk_below K3.out hb)
                  have n_KB := Aside0.mk (below_step KB.out hb)
                  clear K1 K3 KB
                  have K1 := n_K1
                  have K3 := n_K3
                  have KB := n_KB
                  clear n_K1 n_K3 n_KB
                  clear hd hb
                  refine hK.out _ _ trivial (fun _ => ?_)
                  clear hK K
                  (try simp only [Act.put, List.setIfInBounds_toArray, List.set_cons_zero, List.set_cons_succ])
                  refine wpAnyH_take (i := 7) (v := ?_) rfl (by kernel_rfl) (by kernel_rfl) (by kernel_rfl) (fun _ _ _ h => h) (Or.inl ⟨by rfl, ?_⟩) trivial ?_
                  rotate_left
                  · intro w _
                    go_simp
                    try with_reducible rfl
                  show wpAnyH _ _ _ _ _ _ _ (Act.put _ (some 56) _) _
                  (try simp only [Act.put, List.setIfInBounds_toArray, List.set_cons_zero, List.set_cons_succ])
                  refine wpAnyH_take (i := 8) (v := ?_) rfl (by kernel_rfl) (by kernel_rfl) (by kernel_rfl) (fun _ _ _ h => h) (Or.inl ⟨by rfl, ?_⟩) trivial ?_
                  rotate_left
                  · intro w _
                    go_simp
                    try with_reducible rfl
                  show wpAnyH _ _ _ _ _ _ _ (Act.put _ (some 57) _) _
                  (try simp only [Act.put, List.setIfInBounds_toArray, List.set_cons_zero, List.set_cons_succ])
                  refine wpAnyH_take (i := 9) (v := ?_) rfl (by kernel_rfl) (by kernel_rfl) (by kernel_rfl) (fun _ _ _ h => h) (Or.inl ⟨by rfl, ?_⟩) trivial ?_
                  rotate_left
                  · intro w _
                    go_simp
                    try with_reducible rfl
                  show wpAnyH _ _ _ _ _ _ _ (Act.put _ (some 58) _) _
                  (try simp only [Act.put, List.setIfInBounds_toArray, List.set_cons_zero, List.set_cons_succ])
                  refine wpAnyH_ready (rs := [10]) (by kernel_rfl) (by simp) ?_
                  refine AllReadyH.cons rfl (fun K hK => ?_) AllReadyH.nil
                  show (if Region.wanted ⟨none, .store _ (.tmp 58) (.tmp 57), _, _, _, none⟩ _ = true then Oper.wp _ ⟨none, .store _ (.tmp 58) (.tmp 57), _, _, _, none⟩ _ _ _ _ else _)
                  have e0 := (blk_cell K3.out 0).trans (show _ = some (Value.int .i64 a) from rfl)
                  have f0 := blk_frozen K3.out 0
                  go_simp
                  clear e0 f0
                  refine hK.out _ _ trivial (fun _ => ?_)
                  clear hK K
                  (try simp only [Act.put, List.setIfInBounds_toArray, List.set_cons_zero, List.set_cons_succ])
                  have n_K1 := Aside0.mk (blk_far K1.out (p := ⟨w.heap.size + 1, 0, none⟩) (by show w.heap.size ≠ w.heap.size + 1; omega) (.int .i64 (wrap64 (a + wrap64 (wrap64 c * h)))))
                  have n_K3 := Aside0.mk (blk_set K3.out 0 (.int .i64 (wrap64 (a + wrap64 (wrap64 c * h)))))
                  have n_KB := Aside0.mk ((KB.out).setCell (p := ⟨w.heap.size + 1, 0, none⟩) (Nat.le_succ _) (.int .i64 (wrap64 (a + wrap64 (wrap64 c * h)))))
                  clear K1 K3 KB
                  have K1 := n_K1
                  have K3 := n_K3
                  have KB := n_KB
                  clear n_K1 n_K3 n_KB
                  refine wpAnyH_done (by kernel_rfl) ?_ _
                  go_wp2
                  go_roundg g3
                  case measure => omega
                  case rel => exact ⟨m + 1, _, _, by simp, by omega, HE3, K1, K3, KB, by omega⟩
                refine AllReadyH.cons rfl (fun K hK => ?_) AllReadyH.nil
                show (if Region.wanted ⟨some 55, .call _, _, _, _, none⟩ _ = true then Oper.wp _ ⟨some 55, .call _, _, _, _, none⟩ _ _ _ _ else _)
                go_simp
                refine (value_Hand.calls _ _ _ _ HH3.out).mono ?_
                rintro e w7 ⟨rfl, hd⟩
                have hb := hd.below
                have n_K1 := Aside0.mk (blk_below K1.out hb)
                have n_K3 := Aside0.mk (blk_below K3.out hb)
                have n_KB := Aside0.mk (below_step KB.out hb)
                clear K1 K3 KB
                have K1 := n_K1
                have K3 := n_K3
                have KB := n_KB
                clear n_K1 n_K3 n_KB
                clear hd hb
                refine hK.out _ _ trivial (fun _ => ?_)
                clear hK K
                (try simp only [Act.put, List.setIfInBounds_toArray, List.set_cons_zero, List.set_cons_succ])
                refine wpAnyH_take (i := 7) (v := ?_) rfl (by kernel_rfl) (by kernel_rfl) (by kernel_rfl) (fun _ _ _ h => h) (Or.inl ⟨by rfl, ?_⟩) trivial ?_
                rotate_left
                · intro w _
                  go_simp
                  try with_reducible rfl
                show wpAnyH _ _ _ _ _ _ _ (Act.put _ (some 56) _) _
                (try simp only [Act.put, List.setIfInBounds_toArray, List.set_cons_zero, List.set_cons_succ])
                refine wpAnyH_ready (rs := [2]) (by kernel_rfl) (by simp) ?_
                refine AllReadyH.cons rfl (fun K hK => ?_) AllReadyH.nil
                show (if Region.wanted ⟨some 51, .load _ (.tmp 50), _, _, _, none⟩ _ = true then Oper.wp _ ⟨some 51, .load _ (.tmp 50), _, _, _, none⟩ _ _ _ _ else _)
                have e0 := (blk_cell K3.out 0).trans (show _ = some (Value.int .i64 a) from rfl)
                go_simp
                clear e0
                refine hK.out _ _ trivial (fun _ => ?_)
                clear hK K
                (try simp only [Act.put, List.setIfInBounds_toArray, List.set_cons_zero, List.set_cons_succ])
                refine wpAnyH_take (i := 8) (v := ?_) rfl (by kernel_rfl) (by kernel_rfl) (by kernel_rfl) (fun _ _ _ h => h) (Or.inl ⟨by rfl, ?_⟩) trivial ?_
                rotate_left
                · intro w _
                  go_simp
                  try with_reducible rfl
                show wpAnyH _ _ _ _ _ _ _ (Act.put _ (some 57) _) _
                (try simp only [Act.put, List.setIfInBounds_toArray, List.set_cons_zero, List.set_cons_succ])
                refine wpAnyH_take (i := 9) (v := ?_) rfl (by kernel_rfl) (by kernel_rfl) (by kernel_rfl) (fun _ _ _ h => h) (Or.inl ⟨by rfl, ?_⟩) trivial ?_
                rotate_left
                · intro w _
                  go_simp
                  try with_reducible rfl
                show wpAnyH _ _ _ _ _ _ _ (Act.put _ (some 58) _) _
                (try simp only [Act.put, List.setIfInBounds_toArray, List.set_cons_zero, List.set_cons_succ])
                refine wpAnyH_ready (rs := [10]) (by kernel_rfl) (by simp) ?_
                refine AllReadyH.cons rfl (fun K hK => ?_) AllReadyH.nil
                show (if Region.wanted ⟨none, .store _ (.tmp 58) (.tmp 57), _, _, _, none⟩ _ = true then Oper.wp _ ⟨none, .store _ (.tmp 58) (.tmp 57), _, _, _, none⟩ _ _ _ _ else _)
                have e0 := (blk_cell K3.out 0).trans (show _ = some (Value.int .i64 a) from rfl)
                have f0 := blk_frozen K3.out 0
                go_simp
                clear e0 f0
                refine hK.out _ _ trivial (fun _ => ?_)
                clear hK K
                (try simp only [Act.put, List.setIfInBounds_toArray, List.set_cons_zero, List.set_cons_succ])
                have n_K1 := Aside0.mk (blk_far K1.out (p := ⟨w.heap.size + 1, 0, none⟩) (by show w.heap.size ≠ w.heap.size + 1; omega) (.int .i64 (wrap64 (a + wrap64 (wrap64 c * h)))))
                have n_K3 := Aside0.mk (blk_set K3.out 0 (.int .i64 (wrap64 (a + wrap64 (wrap64 c * h)))))
                have n_KB := Aside0.mk ((KB.out).setCell (p := ⟨w.heap.size + 1, 0, none⟩) (Nat.le_succ _) (.int .i64 (wrap64 (a + wrap64 (wrap64 c * h)))))
                clear K1 K3 KB
                have K1 := n_K1
                have K3 := n_K3
                have KB := n_KB
                clear n_K1 n_K3 n_KB
                refine wpAnyH_done (by kernel_rfl) ?_ _
                go_wp2
                go_roundg g3
                case measure => omega
                case rel => exact ⟨m + 1, _, _, by simp, by omega, HE3, K1, K3, KB, by omega⟩
          · have hsplit : ∃ t1 t2, value_Of.hand 1 l8 0 u v = some (t1, t2) ∧ value_Of.hands hs 2 t1 t2 = some (X2, Y2) := by
              have e := HR.out
              simp only [value_Of.hands] at e
              exact ⟨X2, Y2, by rw [HL8.out]; exact e, rfl⟩
            obtain ⟨t1, t2, ha, hb⟩ := hsplit
            have HA := Aside0.mk ha
            have HB2 := Aside0.mk hb
            clear ha hb HR
            have hix0 : ∀ W, (Instr.index 31 (.agg (value_Of.pv hs)) (.int .i64 1)).run Try.prog W = .ok (.agg (value_Of.pv l8)) W := hix
            clear hix
            have l1 := blk_lt K1.out
            have l3 := blk_lt K3.out
            go_upto_region 12 with (first | ((with_reducible refine gate_store (t := 30) (p := 8) (v := .tmp 43) rfl ?_); refine value_Of.store rfl 30 (.tmp 8) (.tmp 43) rfl rfl rfl (blk_new _ _) rfl hll value_Of.info8 ?_; intro W3 s1 s2 s3))
            have n1 := Aside0.mk ((s3 w.heap.size (by omega)).trans (blk_alloc K1.out _))
            have n3 := Aside0.mk ((s3 (w.heap.size + 1) (by omega)).trans (blk_alloc K3.out _))
            have nB := Aside0.mk (s2 w.heap.size w (by omega) (below_alloc KB.out _))
            have K8 := Aside0.mk s1
            clear K1 K3 KB s1 s2 s3 l1 l3 hix0
            have K1 := n1
            have K3 := n3
            have KB := nB
            clear n1 n3 nB
            generalize wr.heap.size = g8 at *
            go_wp2_with (first | ((with_reducible refine gate_dst (N := 44) rfl ?_); refine value_Of.load rfl 30 (.tmp 8) rfl rfl K8.out Try.underlying30 rfl value_Of.info8 (by omega) ?_; rw [show (l8.drop 0).take 8 = l8 by rw [List.drop_zero, List.take_of_length_le (by omega)]]))
            go_loopg [45] 9 (fun gf s45 wx => ∃ (m : Nat) (a b : Int), s45 = .int .i64 m ∧ m ≤ 8 ∧ Aside0 (value_Of.hand 1 (l8.drop m) m a b = some (t1, t2)) ∧ Aside0 (wx.heap[w.heap.size]? = some (.cells (value_Of.pv cs) 33 (0, 0))) ∧ Aside0 (wx.heap[w.heap.size + 1]? = some (.cells #[.int .i64 a, .int .i64 b] 57 (0, 0))) ∧ Aside0 (Below w.heap.size w wx) ∧ 9 ≤ gf + m)
            case atStart => exact ⟨0, u, v, rfl, by omega, ⟨by rw [List.drop_zero]; exact HA.out⟩, K1, K3, KB, by omega⟩
            case round =>
              clear K1 K3 KB HA K8
              obtain ⟨m, a, b, rfl, hm, HR3, K1, K3, KB, hgf3⟩ := hrel
              by_cases hm8 : m = 8
              · have e := HR3.out
                rw [hm8, List.drop_of_length_le (by omega)] at e
                simp only [value_Of.hand, Option.some.injEq, Prod.mk.injEq] at e
                obtain ⟨rfl, rfl⟩ := e
                clear HR3
                subst hm8
                go_wp2
                go_roundg g2
                case measure => omega
                case rel => exact ⟨2, a, b, by simp, by omega, HB2, K1, K3, KB, by omega⟩
              · have c0 : decide ((m : Int) < 8) = true := decide_eq_true (by omega)
                have hix3 : ∀ W, (Instr.index 30 (.agg (value_Of.pv l8)) (.int .i64 (m : Int))).run Try.prog W = .ok (.int .i8 (l8.getD m 0)) W := fun W => value_Of.index 30 27 8 m l8 W Try.underlying30 (by kernel_rfl) (by kernel_rfl) (by kernel_rfl) (by omega) (by omega)
                obtain ⟨c, hc⟩ : ∃ c, c = l8.getD m 0 := ⟨_, rfl⟩
                rw [← hc] at hix3
                have e := HR3.out
                rw [List.drop_eq_getElem_cons (show m < l8.length by omega)] at e
                have ev : l8[m]'(by omega) = c := by rw [hc, List.getD_eq_getElem?_getD, List.getElem?_eq_getElem (by omega)]; rfl
                rw [ev] at e
                unfold value_Of.hand at e
                obtain ⟨h, hh3, e2⟩ := Option.bind_eq_some_iff.mp e
                have e3 : value_Of.hand 1 (l8.drop (m + 1)) (m + 1) (a) (wrap64 (b + wrap64 (wrap64 c * h))) = some (t1, t2) := e2
                have HH3 := Aside0.mk hh3
                have HE3 := Aside0.mk e3
                clear e3
                have HC := Aside0.mk hc
                have ew : IntKind.i64.wrap ((m : Int) + 1) = (m : Int) + 1 := IntWalk.i64_in _ (by omega)
                obtain ⟨g3, rfl⟩ : ∃ g3, gk = g3 + 1 := ⟨gk - 1, by omega⟩
                clear e e2 ev hh3 hc HR3
                go_upto_region 15 with (fail)
                clear hix3
                refine wp_region_held_drew (S := fun _ => True) (by kernel_rfl) trivial (fun _ => ?_)
                have n_K1 := Aside0.mk (blk_drew K1.out)
                have n_K3 := Aside0.mk (blk_drew K3.out)
                have n_KB := Aside0.mk (below_drew KB.out)
                clear K1 K3 KB
                have K1 := n_K1
                have K3 := n_K3
                have KB := n_KB
                clear n_K1 n_K3 n_KB
                refine wpAnyH_take (i := 0) (v := ?_) rfl (by kernel_rfl) (by kernel_rfl) (by kernel_rfl) (fun _ _ _ h => h) (Or.inl ⟨by rfl, ?_⟩) trivial ?_
                rotate_left
                · intro w _
                  go_simp
                  try with_reducible rfl
                show wpAnyH _ _ _ _ _ _ _ (Act.put _ (some 49) _) _
                (try simp only [Act.put, List.setIfInBounds_toArray, List.set_cons_zero, List.set_cons_succ])
                refine wpAnyH_take (i := 1) (v := ?_) rfl (by kernel_rfl) (by kernel_rfl) (by kernel_rfl) (fun _ _ _ h => h) (Or.inl ⟨by rfl, ?_⟩) trivial ?_
                rotate_left
                · intro w _
                  go_simp
                  try with_reducible rfl
                show wpAnyH _ _ _ _ _ _ _ (Act.put _ (some 50) _) _
                (try simp only [Act.put, List.setIfInBounds_toArray, List.set_cons_zero, List.set_cons_succ])
                refine wpAnyH_take (i := 3) (v := ?_) rfl (by kernel_rfl) (by kernel_rfl) (by kernel_rfl) (fun _ _ _ h => h) (Or.inl ⟨by rfl, ?_⟩) trivial ?_
                rotate_left
                · intro w _
                  go_simp
                  try with_reducible rfl
                show wpAnyH _ _ _ _ _ _ _ (Act.put _ (some 52) _) _
                (try simp only [Act.put, List.setIfInBounds_toArray, List.set_cons_zero, List.set_cons_succ])
                refine wpAnyH_take (i := 4) (v := ?_) rfl (by kernel_rfl) (by kernel_rfl) (by kernel_rfl) (fun _ _ _ h => h) (Or.inl ⟨by rfl, ?_⟩) trivial ?_
                rotate_left
                · intro w _
                  go_simp
                  try with_reducible rfl
                show wpAnyH _ _ _ _ _ _ _ (Act.put _ (some 53) _) _
                (try simp only [Act.put, List.setIfInBounds_toArray, List.set_cons_zero, List.set_cons_succ])
                refine wpAnyH_take (i := 5) (v := ?_) rfl (by kernel_rfl) (by kernel_rfl) (by kernel_rfl) (fun _ _ _ h => h) (Or.inl ⟨by rfl, ?_⟩) trivial ?_
                rotate_left
                · intro w _
                  go_simp
                  try with_reducible rfl
                show wpAnyH _ _ _ _ _ _ _ (Act.put _ (some 54) _) _
                (try simp only [Act.put, List.setIfInBounds_toArray, List.set_cons_zero, List.set_cons_succ])
                refine wpAnyH_ready (rs := [2, 6]) (by kernel_rfl) (by simp) ?_
                refine AllReadyH.cons rfl (fun K hK => ?_) ?_
                · show (if Region.wanted ⟨some 51, .load _ (.tmp 50), _, _, _, none⟩ _ = true then Oper.wp _ ⟨some 51, .load _ (.tmp 50), _, _, _, none⟩ _ _ _ _ else _)
                  have e0 := (blk_cell K3.out 1).trans (show _ = some (Value.int .i64 b) from rfl)
                  go_simp
                  clear e0
                  refine hK.out _ _ trivial (fun _ => ?_)
                  clear hK K
                  (try simp only [Act.put, List.setIfInBounds_toArray, List.set_cons_zero, List.set_cons_succ])
                  refine wpAnyH_ready (rs := [6]) (by kernel_rfl) (by simp) ?_
                  refine AllReadyH.cons rfl (fun K hK => ?_) AllReadyH.nil
                  show (if Region.wanted ⟨some 55, .call _, _, _, _, none⟩ _ = true then Oper.wp _ ⟨some 55, .call _, _, _, _, none⟩ _ _ _ _ else _)
                  go_simp
                  refine (value_Hand.calls _ _ _ _ HH3.out).mono ?_
                  rintro e w7 ⟨rfl, hd⟩
                  have hb := hd.below
                  have n_K1 := Aside0.mk (blk_below K1.out hb)
                  have n_K3 := Aside0.mk (blk_below K3.out hb)
                  have n_KB := Aside0.mk (below_step KB.out hb)
                  clear K1 K3 KB
                  have K1 := n_K1
                  have K3 := n_K3
                  have KB := n_KB
                  clear n_K1 n_K3 n_KB
                  clear hd hb
                  refine hK.out _ _ trivial (fun _ => ?_)
                  clear hK K
                  (try simp only [Act.put, List.setIfInBounds_toArray, List.set_cons_zero, List.set_cons_succ])
                  refine wpAnyH_take (i := 7) (v := ?_) rfl (by kernel_rfl) (by kernel_rfl) (by kernel_rfl) (fun _ _ _ h => h) (Or.inl ⟨by rfl, ?_⟩) trivial ?_
                  rotate_left
                  · intro w _
                    go_simp
                    try with_reducible rfl
                  show wpAnyH _ _ _ _ _ _ _ (Act.put _ (some 56) _) _
                  (try simp only [Act.put, List.setIfInBounds_toArray, List.set_cons_zero, List.set_cons_succ])
                  refine wpAnyH_take (i := 8) (v := ?_) rfl (by kernel_rfl) (by kernel_rfl) (by kernel_rfl) (fun _ _ _ h => h) (Or.inl ⟨by rfl, ?_⟩) trivial ?_
                  rotate_left
                  · intro w _
                    go_simp
                    try with_reducible rfl
                  show wpAnyH _ _ _ _ _ _ _ (Act.put _ (some 57) _) _
                  (try simp only [Act.put, List.setIfInBounds_toArray, List.set_cons_zero, List.set_cons_succ])
                  refine wpAnyH_take (i := 9) (v := ?_) rfl (by kernel_rfl) (by kernel_rfl) (by kernel_rfl) (fun _ _ _ h => h) (Or.inl ⟨by rfl, ?_⟩) trivial ?_
                  rotate_left
                  · intro w _
                    go_simp
                    try with_reducible rfl
                  show wpAnyH _ _ _ _ _ _ _ (Act.put _ (some 58) _) _
                  (try simp only [Act.put, List.setIfInBounds_toArray, List.set_cons_zero, List.set_cons_succ])
                  refine wpAnyH_ready (rs := [10]) (by kernel_rfl) (by simp) ?_
                  refine AllReadyH.cons rfl (fun K hK => ?_) AllReadyH.nil
                  show (if Region.wanted ⟨none, .store _ (.tmp 58) (.tmp 57), _, _, _, none⟩ _ = true then Oper.wp _ ⟨none, .store _ (.tmp 58) (.tmp 57), _, _, _, none⟩ _ _ _ _ else _)
                  have e0 := (blk_cell K3.out 1).trans (show _ = some (Value.int .i64 b) from rfl)
                  have f0 := blk_frozen K3.out 1
                  go_simp
                  clear e0 f0
                  refine hK.out _ _ trivial (fun _ => ?_)
                  clear hK K
                  (try simp only [Act.put, List.setIfInBounds_toArray, List.set_cons_zero, List.set_cons_succ])
                  have n_K1 := Aside0.mk (blk_far K1.out (p := ⟨w.heap.size + 1, 1, none⟩) (by show w.heap.size ≠ w.heap.size + 1; omega) (.int .i64 (wrap64 (b + wrap64 (wrap64 c * h)))))
                  have n_K3 := Aside0.mk (blk_set K3.out 1 (.int .i64 (wrap64 (b + wrap64 (wrap64 c * h)))))
                  have n_KB := Aside0.mk ((KB.out).setCell (p := ⟨w.heap.size + 1, 1, none⟩) (Nat.le_succ _) (.int .i64 (wrap64 (b + wrap64 (wrap64 c * h)))))
                  clear K1 K3 KB
                  have K1 := n_K1
                  have K3 := n_K3
                  have KB := n_KB
                  clear n_K1 n_K3 n_KB
                  refine wpAnyH_done (by kernel_rfl) ?_ _
                  go_wp2
                  go_roundg g3
                  case measure => omega
                  case rel => exact ⟨m + 1, _, _, by simp, by omega, HE3, K1, K3, KB, by omega⟩
                refine AllReadyH.cons rfl (fun K hK => ?_) AllReadyH.nil
                show (if Region.wanted ⟨some 55, .call _, _, _, _, none⟩ _ = true then Oper.wp _ ⟨some 55, .call _, _, _, _, none⟩ _ _ _ _ else _)
                go_simp
                refine (value_Hand.calls _ _ _ _ HH3.out).mono ?_
                rintro e w7 ⟨rfl, hd⟩
                have hb := hd.below
                have n_K1 := Aside0.mk (blk_below K1.out hb)
                have n_K3 := Aside0.mk (blk_below K3.out hb)
                have n_KB := Aside0.mk (below_step KB.out hb)
                clear K1 K3 KB
                have K1 := n_K1
                have K3 := n_K3
                have KB := n_KB
                clear n_K1 n_K3 n_KB
                clear hd hb
                refine hK.out _ _ trivial (fun _ => ?_)
                clear hK K
                (try simp only [Act.put, List.setIfInBounds_toArray, List.set_cons_zero, List.set_cons_succ])
                refine wpAnyH_take (i := 7) (v := ?_) rfl (by kernel_rfl) (by kernel_rfl) (by kernel_rfl) (fun _ _ _ h => h) (Or.inl ⟨by rfl, ?_⟩) trivial ?_
                rotate_left
                · intro w _
                  go_simp
                  try with_reducible rfl
                show wpAnyH _ _ _ _ _ _ _ (Act.put _ (some 56) _) _
                (try simp only [Act.put, List.setIfInBounds_toArray, List.set_cons_zero, List.set_cons_succ])
                refine wpAnyH_ready (rs := [2]) (by kernel_rfl) (by simp) ?_
                refine AllReadyH.cons rfl (fun K hK => ?_) AllReadyH.nil
                show (if Region.wanted ⟨some 51, .load _ (.tmp 50), _, _, _, none⟩ _ = true then Oper.wp _ ⟨some 51, .load _ (.tmp 50), _, _, _, none⟩ _ _ _ _ else _)
                have e0 := (blk_cell K3.out 1).trans (show _ = some (Value.int .i64 b) from rfl)
                go_simp
                clear e0
                refine hK.out _ _ trivial (fun _ => ?_)
                clear hK K
                (try simp only [Act.put, List.setIfInBounds_toArray, List.set_cons_zero, List.set_cons_succ])
                refine wpAnyH_take (i := 8) (v := ?_) rfl (by kernel_rfl) (by kernel_rfl) (by kernel_rfl) (fun _ _ _ h => h) (Or.inl ⟨by rfl, ?_⟩) trivial ?_
                rotate_left
                · intro w _
                  go_simp
                  try with_reducible rfl
                show wpAnyH _ _ _ _ _ _ _ (Act.put _ (some 57) _) _
                (try simp only [Act.put, List.setIfInBounds_toArray, List.set_cons_zero, List.set_cons_succ])
                refine wpAnyH_take (i := 9) (v := ?_) rfl (by kernel_rfl) (by kernel_rfl) (by kernel_rfl) (fun _ _ _ h => h) (Or.inl ⟨by rfl, ?_⟩) trivial ?_
                rotate_left
                · intro w _
                  go_simp
                  try with_reducible rfl
                show wpAnyH _ _ _ _ _ _ _ (Act.put _ (some 58) _) _
                (try simp only [Act.put, List.setIfInBounds_toArray, List.set_cons_zero, List.set_cons_succ])
                refine wpAnyH_ready (rs := [10]) (by kernel_rfl) (by simp) ?_
                refine AllReadyH.cons rfl (fun K hK => ?_) AllReadyH.nil
                show (if Region.wanted ⟨none, .store _ (.tmp 58) (.tmp 57), _, _, _, none⟩ _ = true then Oper.wp _ ⟨none, .store _ (.tmp 58) (.tmp 57), _, _, _, none⟩ _ _ _ _ else _)
                have e0 := (blk_cell K3.out 1).trans (show _ = some (Value.int .i64 b) from rfl)
                have f0 := blk_frozen K3.out 1
                go_simp
                clear e0 f0
                refine hK.out _ _ trivial (fun _ => ?_)
                clear hK K
                (try simp only [Act.put, List.setIfInBounds_toArray, List.set_cons_zero, List.set_cons_succ])
                have n_K1 := Aside0.mk (blk_far K1.out (p := ⟨w.heap.size + 1, 1, none⟩) (by show w.heap.size ≠ w.heap.size + 1; omega) (.int .i64 (wrap64 (b + wrap64 (wrap64 c * h)))))
                have n_K3 := Aside0.mk (blk_set K3.out 1 (.int .i64 (wrap64 (b + wrap64 (wrap64 c * h)))))
                have n_KB := Aside0.mk ((KB.out).setCell (p := ⟨w.heap.size + 1, 1, none⟩) (Nat.le_succ _) (.int .i64 (wrap64 (b + wrap64 (wrap64 c * h)))))
                clear K1 K3 KB
                have K1 := n_K1
                have K3 := n_K3
                have KB := n_KB
                clear n_K1 n_K3 n_KB
                refine wpAnyH_done (by kernel_rfl) ?_ _
                go_wp2
                go_roundg g3
                case measure => omega
                case rel => exact ⟨m + 1, _, _, by simp, by omega, HE3, K1, K3, KB, by omega⟩
    · have b0 : decide ((n : Int) < 81) = true := decide_eq_true (by omega)
      have b1 : (0 ≤ (n : Int) ∧ (n : Int) < 81) = True := eq_true (by omega)
      have b2 : (0 ≤ (n : Int)) = True := eq_true (by omega)
      have b3 : ((n : Int) < 81) = True := eq_true (by omega)
      have hix : ∀ W, (Instr.index 29 (.agg (value_Of.pv bs)) (.int .i64 (n : Int))).run Try.prog W = .ok (.int .i8 (bs.getD n 0)) W := fun W => value_Of.index 29 28 81 n bs W Try.underlying29 (by kernel_rfl) (by kernel_rfl) (by kernel_rfl) (by omega) (by omega)
      obtain ⟨v, hv⟩ : ∃ v, v = bs.getD n 0 := ⟨_, rfl⟩
      rw [← hv] at hix
      have e := HR.out
      rw [List.drop_eq_getElem_cons (show n < bs.length by omega)] at e
      have ev : bs[n]'(by omega) = v := by rw [hv, List.getD_eq_getElem?_getD, List.getElem?_eq_getElem (by omega)]; rfl
      rw [ev] at e
      unfold value_Of.board at e
      obtain ⟨⟨x2, y2⟩, hc, hrest⟩ := Option.bind_eq_some_iff.mp e
      dsimp only at hrest
      unfold value_Of.cell at hc
      obtain ⟨s, hs, hc2⟩ := Option.bind_eq_some_iff.mp hc
      have HS := Aside0.mk hs
      have HREST := Aside0.mk hrest
      have HV := Aside0.mk hv
      have ew : IntKind.i64.wrap ((n : Int) + 1) = (n : Int) + 1 := IntWalk.i64_in _ (by omega)
      obtain ⟨g', rfl⟩ : ∃ g', gk = g' + 1 := ⟨gk - 1, by omega⟩
      clear e ev hc hs hrest hv HR
      go_upto_region 6 with (first | (go_at_call 42; refine (piece_Side.calls _ _ _ _ HS.out).mono ?_; rintro e w' ⟨rfl, ⟨n1, rfl⟩⟩))
      have n_K1 := Aside0.mk (blk_drewN K1.out n1)
      have n_K3 := Aside0.mk (blk_drewN K3.out n1)
      have n_KB := Aside0.mk (pw_below_drewN KB.out n1)
      clear K1 K3 KB
      have K1 := n_K1
      have K3 := n_K3
      have KB := n_KB
      clear n_K1 n_K3 n_KB
      generalize wr.drewN n1 = W1 at *
      clear hix
      by_cases hs0 : s ≥ 0
      · rw [if_pos hs0] at hc2
        have c0 : decide (0 ≤ s) = true := decide_eq_true hs0
        obtain ⟨kd, hk, hc3⟩ := Option.bind_eq_some_iff.mp hc2
        have HK := Aside0.mk hk
        clear hc2 hk
        by_cases hk8 : kd = 8
        · rw [if_pos hk8] at hc3
          simp only [Option.some.injEq, Prod.mk.injEq] at hc3
          obtain ⟨rfl, rfl⟩ := hc3
          have c1 : (kd != 8) = false := by simpa using hk8
          go_upto_region 8 with (first | (go_at_call 43; refine (piece_Kind.calls _ _ _ _ HK.out).mono ?_; rintro e w' ⟨rfl, ⟨n1, rfl⟩⟩))
          have n_K1 := Aside0.mk (blk_drewN K1.out n1)
          have n_K3 := Aside0.mk (blk_drewN K3.out n1)
          have n_KB := Aside0.mk (pw_below_drewN KB.out n1)
          clear K1 K3 KB
          have K1 := n_K1
          have K3 := n_K3
          have KB := n_KB
          clear n_K1 n_K3 n_KB
          go_wp2
          go_roundg g'
          case measure => omega
          case rel => exact ⟨n + 1, x, y, by simp, by omega, HREST, K1, K3, KB, by omega⟩
        · rw [if_neg hk8] at hc3
          have c1 : (kd != 8) = true := by simpa using hk8
          obtain ⟨p, hp, hc4⟩ := Option.bind_eq_some_iff.mp hc3
          obtain ⟨e, he, hc5⟩ := Option.bind_eq_some_iff.mp hc4
          have HP := Aside0.mk hp
          have HE := Aside0.mk he
          clear hc3 hc4 hp he
          by_cases hs01 : s = 0 ∨ s = 1
          · rw [if_pos hs01] at hc5
            rcases hs01 with rfl | rfl
            · have ex : x2 = wrap64 (x + wrap64 (p + e)) ∧ y2 = y := by
                simp [value_Of.addTo] at hc5
                exact ⟨hc5.1.symm, hc5.2.symm⟩
              obtain ⟨rfl, rfl⟩ := ex
              clear hc5
              go_upto_region 7 with (first | (go_at_call 43; refine (piece_Kind.calls _ _ _ _ HK.out).mono ?_; rintro e w' ⟨rfl, ⟨n2, rfl⟩⟩))
              have n_K1 := Aside0.mk (blk_drewN K1.out n2)
              have n_K3 := Aside0.mk (blk_drewN K3.out n2)
              have n_KB := Aside0.mk (pw_below_drewN KB.out n2)
              clear K1 K3 KB
              have K1 := n_K1
              have K3 := n_K3
              have KB := n_KB
              clear n_K1 n_K3 n_KB
              generalize W1.drewN n2 = W2 at *
              refine wp_region_held_drew (S := fun _ => True) (by kernel_rfl) trivial (fun _ => ?_)
              have n_K1 := Aside0.mk (blk_drew K1.out)
              have n_K3 := Aside0.mk (blk_drew K3.out)
              have n_KB := Aside0.mk (below_drew KB.out)
              clear K1 K3 KB
              have K1 := n_K1
              have K3 := n_K3
              have KB := n_KB
              clear n_K1 n_K3 n_KB
              refine wpAnyH_take (i := 0) (v := ?_) rfl (by kernel_rfl) (by kernel_rfl) (by kernel_rfl) (fun _ _ _ h => h) (Or.inl ⟨by rfl, ?_⟩) trivial ?_
              rotate_left
              · intro w _
                go_simp
                try with_reducible rfl
              show wpAnyH _ _ _ _ _ _ _ (Act.put _ (some 26) _) _
              (try simp only [Act.put, List.setIfInBounds_toArray, List.set_cons_zero, List.set_cons_succ])
              refine wpAnyH_take (i := 1) (v := ?_) rfl (by kernel_rfl) (by kernel_rfl) (by kernel_rfl) (fun _ _ _ h => h) (Or.inl ⟨by rfl, ?_⟩) trivial ?_
              rotate_left
              · intro w _
                go_simp
                try with_reducible rfl
              show wpAnyH _ _ _ _ _ _ _ (Act.put _ (some 27) _) _
              (try simp only [Act.put, List.setIfInBounds_toArray, List.set_cons_zero, List.set_cons_succ])
              refine wpAnyH_take (i := 3) (v := ?_) rfl (by kernel_rfl) (by kernel_rfl) (by kernel_rfl) (fun _ _ _ h => h) (Or.inl ⟨by rfl, ?_⟩) trivial ?_
              rotate_left
              · intro w _
                go_simp
                try with_reducible rfl
              show wpAnyH _ _ _ _ _ _ _ (Act.put _ (some 29) _) _
              (try simp only [Act.put, List.setIfInBounds_toArray, List.set_cons_zero, List.set_cons_succ])
              refine wpAnyH_take (i := 6) (v := ?_) rfl (by kernel_rfl) (by kernel_rfl) (by kernel_rfl) (fun _ _ _ h => h) (Or.inl ⟨by rfl, ?_⟩) trivial ?_
              rotate_left
              · intro w _
                go_simp
                try with_reducible rfl
              show wpAnyH _ _ _ _ _ _ _ (Act.put _ (some 32) _) _
              (try simp only [Act.put, List.setIfInBounds_toArray, List.set_cons_zero, List.set_cons_succ])
              refine wpAnyH_ready (rs := [2, 4]) (by kernel_rfl) (by simp) ?_
              refine AllReadyH.cons rfl (fun K hK => ?_) ?_
              · show (if Region.wanted ⟨some 28, .load _ (.tmp 27), _, _, _, none⟩ _ = true then Oper.wp _ ⟨some 28, .load _ (.tmp 27), _, _, _, none⟩ _ _ _ _ else _)
                have e0 := (blk_cell K3.out 0).trans (show _ = some (Value.int .i64 x) from rfl)
                go_simp
                clear e0
                refine hK.out _ _ trivial (fun _ => ?_)
                clear hK K
                (try simp only [Act.put, List.setIfInBounds_toArray, List.set_cons_zero, List.set_cons_succ])
                refine wpAnyH_ready (rs := [4]) (by kernel_rfl) (by simp) ?_
                refine AllReadyH.cons rfl (fun K hK => ?_) AllReadyH.nil
                show (if Region.wanted ⟨some 30, .call _, _, _, _, none⟩ _ = true then Oper.wp _ ⟨some 30, .call _, _, _, _, none⟩ _ _ _ _ else _)
                go_simp
                refine (piece_Kind.calls _ _ _ _ HK.out).mono ?_
                rintro e w7 ⟨rfl, hd⟩
                have hb := hd.below
                have n_K1 := Aside0.mk (blk_below K1.out hb)
                have n_K3 := Aside0.mk (blk_below K3.out hb)
                have n_KB := Aside0.mk (below_step KB.out hb)
                clear K1 K3 KB
                have K1 := n_K1
                have K3 := n_K3
                have KB := n_KB
                clear n_K1 n_K3 n_KB
                clear hd hb
                refine hK.out _ _ trivial (fun _ => ?_)
                clear hK K
                (try simp only [Act.put, List.setIfInBounds_toArray, List.set_cons_zero, List.set_cons_succ])
                refine wpAnyH_ready (rs := [5]) (by kernel_rfl) (by simp) ?_
                refine AllReadyH.cons rfl (fun K hK => ?_) AllReadyH.nil
                show (if Region.wanted ⟨some 31, .call _, _, _, _, none⟩ _ = true then Oper.wp _ ⟨some 31, .call _, _, _, _, none⟩ _ _ _ _ else _)
                go_simp
                refine (value_Piece.calls _ _ _ _ HP.out).mono ?_
                rintro e w7 ⟨rfl, hd⟩
                have hb := hd.below
                have n_K1 := Aside0.mk (blk_below K1.out hb)
                have n_K3 := Aside0.mk (blk_below K3.out hb)
                have n_KB := Aside0.mk (below_step KB.out hb)
                clear K1 K3 KB
                have K1 := n_K1
                have K3 := n_K3
                have KB := n_KB
                clear n_K1 n_K3 n_KB
                clear hd hb
                refine hK.out _ _ trivial (fun _ => ?_)
                clear hK K
                (try simp only [Act.put, List.setIfInBounds_toArray, List.set_cons_zero, List.set_cons_succ])
                refine wpAnyH_ready (rs := [7]) (by kernel_rfl) (by simp) ?_
                refine AllReadyH.cons rfl (fun K hK => ?_) AllReadyH.nil
                show (if Region.wanted ⟨some 33, .call _, _, _, _, none⟩ _ = true then Oper.wp _ ⟨some 33, .call _, _, _, _, none⟩ _ _ _ _ else _)
                go_simp
                refine (value_Square.calls _ _ _ HE.out).mono ?_
                rintro e w7 ⟨rfl, hd⟩
                have hb := hd.below
                have n_K1 := Aside0.mk (blk_below K1.out hb)
                have n_K3 := Aside0.mk (blk_below K3.out hb)
                have n_KB := Aside0.mk (below_step KB.out hb)
                clear K1 K3 KB
                have K1 := n_K1
                have K3 := n_K3
                have KB := n_KB
                clear n_K1 n_K3 n_KB
                clear hd hb
                refine hK.out _ _ trivial (fun _ => ?_)
                clear hK K
                (try simp only [Act.put, List.setIfInBounds_toArray, List.set_cons_zero, List.set_cons_succ])
                refine wpAnyH_take (i := 8) (v := ?_) rfl (by kernel_rfl) (by kernel_rfl) (by kernel_rfl) (fun _ _ _ h => h) (Or.inl ⟨by rfl, ?_⟩) trivial ?_
                rotate_left
                · intro w _
                  go_simp
                  try with_reducible rfl
                show wpAnyH _ _ _ _ _ _ _ (Act.put _ (some 34) _) _
                (try simp only [Act.put, List.setIfInBounds_toArray, List.set_cons_zero, List.set_cons_succ])
                refine wpAnyH_take (i := 9) (v := ?_) rfl (by kernel_rfl) (by kernel_rfl) (by kernel_rfl) (fun _ _ _ h => h) (Or.inl ⟨by rfl, ?_⟩) trivial ?_
                rotate_left
                · intro w _
                  go_simp
                  try with_reducible rfl
                show wpAnyH _ _ _ _ _ _ _ (Act.put _ (some 35) _) _
                (try simp only [Act.put, List.setIfInBounds_toArray, List.set_cons_zero, List.set_cons_succ])
                refine wpAnyH_take (i := 10) (v := ?_) rfl (by kernel_rfl) (by kernel_rfl) (by kernel_rfl) (fun _ _ _ h => h) (Or.inl ⟨by rfl, ?_⟩) trivial ?_
                rotate_left
                · intro w _
                  go_simp
                  try with_reducible rfl
                show wpAnyH _ _ _ _ _ _ _ (Act.put _ (some 36) _) _
                (try simp only [Act.put, List.setIfInBounds_toArray, List.set_cons_zero, List.set_cons_succ])
                refine wpAnyH_ready (rs := [11]) (by kernel_rfl) (by simp) ?_
                refine AllReadyH.cons rfl (fun K hK => ?_) AllReadyH.nil
                show (if Region.wanted ⟨none, .store _ (.tmp 36) (.tmp 35), _, _, _, none⟩ _ = true then Oper.wp _ ⟨none, .store _ (.tmp 36) (.tmp 35), _, _, _, none⟩ _ _ _ _ else _)
                have e0 := (blk_cell K3.out 0).trans (show _ = some (Value.int .i64 x) from rfl)
                have f0 := blk_frozen K3.out 0
                go_simp
                clear e0 f0
                refine hK.out _ _ trivial (fun _ => ?_)
                clear hK K
                (try simp only [Act.put, List.setIfInBounds_toArray, List.set_cons_zero, List.set_cons_succ])
                have n_K1 := Aside0.mk (blk_far K1.out (p := ⟨w.heap.size + 1, 0, none⟩) (by show w.heap.size ≠ w.heap.size + 1; omega) (.int .i64 (wrap64 (x + wrap64 (p + e)))))
                have n_K3 := Aside0.mk (blk_set K3.out 0 (.int .i64 (wrap64 (x + wrap64 (p + e)))))
                have n_KB := Aside0.mk ((KB.out).setCell (p := ⟨w.heap.size + 1, 0, none⟩) (Nat.le_succ _) (.int .i64 (wrap64 (x + wrap64 (p + e)))))
                clear K1 K3 KB
                have K1 := n_K1
                have K3 := n_K3
                have KB := n_KB
                clear n_K1 n_K3 n_KB
                refine wpAnyH_done (by kernel_rfl) ?_ _
                go_wp2
                go_roundg g'
                case measure => omega
                case rel => exact ⟨n + 1, _, _, by simp, by omega, HREST, K1, K3, KB, by omega⟩
              refine AllReadyH.cons rfl (fun K hK => ?_) AllReadyH.nil
              show (if Region.wanted ⟨some 30, .call _, _, _, _, none⟩ _ = true then Oper.wp _ ⟨some 30, .call _, _, _, _, none⟩ _ _ _ _ else _)
              go_simp
              refine (piece_Kind.calls _ _ _ _ HK.out).mono ?_
              rintro e w7 ⟨rfl, hd⟩
              have hb := hd.below
              have n_K1 := Aside0.mk (blk_below K1.out hb)
              have n_K3 := Aside0.mk (blk_below K3.out hb)
              have n_KB := Aside0.mk (below_step KB.out hb)
              clear K1 K3 KB
              have K1 := n_K1
              have K3 := n_K3
              have KB := n_KB
              clear n_K1 n_K3 n_KB
              clear hd hb
              refine hK.out _ _ trivial (fun _ => ?_)
              clear hK K
              (try simp only [Act.put, List.setIfInBounds_toArray, List.set_cons_zero, List.set_cons_succ])
              refine wpAnyH_ready (rs := [2, 5]) (by kernel_rfl) (by simp) ?_
              refine AllReadyH.cons rfl (fun K hK => ?_) ?_
              · show (if Region.wanted ⟨some 28, .load _ (.tmp 27), _, _, _, none⟩ _ = true then Oper.wp _ ⟨some 28, .load _ (.tmp 27), _, _, _, none⟩ _ _ _ _ else _)
                have e0 := (blk_cell K3.out 0).trans (show _ = some (Value.int .i64 x) from rfl)
                go_simp
                clear e0
                refine hK.out _ _ trivial (fun _ => ?_)
                clear hK K
                (try simp only [Act.put, List.setIfInBounds_toArray, List.set_cons_zero, List.set_cons_succ])
                refine wpAnyH_ready (rs := [5]) (by kernel_rfl) (by simp) ?_
                refine AllReadyH.cons rfl (fun K hK => ?_) AllReadyH.nil
                show (if Region.wanted ⟨some 31, .call _, _, _, _, none⟩ _ = true then Oper.wp _ ⟨some 31, .call _, _, _, _, none⟩ _ _ _ _ else _)
                go_simp
                refine (value_Piece.calls _ _ _ _ HP.out).mono ?_
                rintro e w7 ⟨rfl, hd⟩
                have hb := hd.below
                have n_K1 := Aside0.mk (blk_below K1.out hb)
                have n_K3 := Aside0.mk (blk_below K3.out hb)
                have n_KB := Aside0.mk (below_step KB.out hb)
                clear K1 K3 KB
                have K1 := n_K1
                have K3 := n_K3
                have KB := n_KB
                clear n_K1 n_K3 n_KB
                clear hd hb
                refine hK.out _ _ trivial (fun _ => ?_)
                clear hK K
                (try simp only [Act.put, List.setIfInBounds_toArray, List.set_cons_zero, List.set_cons_succ])
                refine wpAnyH_ready (rs := [7]) (by kernel_rfl) (by simp) ?_
                refine AllReadyH.cons rfl (fun K hK => ?_) AllReadyH.nil
                show (if Region.wanted ⟨some 33, .call _, _, _, _, none⟩ _ = true then Oper.wp _ ⟨some 33, .call _, _, _, _, none⟩ _ _ _ _ else _)
                go_simp
                refine (value_Square.calls _ _ _ HE.out).mono ?_
                rintro e w7 ⟨rfl, hd⟩
                have hb := hd.below
                have n_K1 := Aside0.mk (blk_below K1.out hb)
                have n_K3 := Aside0.mk (blk_below K3.out hb)
                have n_KB := Aside0.mk (below_step KB.out hb)
                clear K1 K3 KB
                have K1 := n_K1
                have K3 := n_K3
                have KB := n_KB
                clear n_K1 n_K3 n_KB
                clear hd hb
                refine hK.out _ _ trivial (fun _ => ?_)
                clear hK K
                (try simp only [Act.put, List.setIfInBounds_toArray, List.set_cons_zero, List.set_cons_succ])
                refine wpAnyH_take (i := 8) (v := ?_) rfl (by kernel_rfl) (by kernel_rfl) (by kernel_rfl) (fun _ _ _ h => h) (Or.inl ⟨by rfl, ?_⟩) trivial ?_
                rotate_left
                · intro w _
                  go_simp
                  try with_reducible rfl
                show wpAnyH _ _ _ _ _ _ _ (Act.put _ (some 34) _) _
                (try simp only [Act.put, List.setIfInBounds_toArray, List.set_cons_zero, List.set_cons_succ])
                refine wpAnyH_take (i := 9) (v := ?_) rfl (by kernel_rfl) (by kernel_rfl) (by kernel_rfl) (fun _ _ _ h => h) (Or.inl ⟨by rfl, ?_⟩) trivial ?_
                rotate_left
                · intro w _
                  go_simp
                  try with_reducible rfl
                show wpAnyH _ _ _ _ _ _ _ (Act.put _ (some 35) _) _
                (try simp only [Act.put, List.setIfInBounds_toArray, List.set_cons_zero, List.set_cons_succ])
                refine wpAnyH_take (i := 10) (v := ?_) rfl (by kernel_rfl) (by kernel_rfl) (by kernel_rfl) (fun _ _ _ h => h) (Or.inl ⟨by rfl, ?_⟩) trivial ?_
                rotate_left
                · intro w _
                  go_simp
                  try with_reducible rfl
                show wpAnyH _ _ _ _ _ _ _ (Act.put _ (some 36) _) _
                (try simp only [Act.put, List.setIfInBounds_toArray, List.set_cons_zero, List.set_cons_succ])
                refine wpAnyH_ready (rs := [11]) (by kernel_rfl) (by simp) ?_
                refine AllReadyH.cons rfl (fun K hK => ?_) AllReadyH.nil
                show (if Region.wanted ⟨none, .store _ (.tmp 36) (.tmp 35), _, _, _, none⟩ _ = true then Oper.wp _ ⟨none, .store _ (.tmp 36) (.tmp 35), _, _, _, none⟩ _ _ _ _ else _)
                have e0 := (blk_cell K3.out 0).trans (show _ = some (Value.int .i64 x) from rfl)
                have f0 := blk_frozen K3.out 0
                go_simp
                clear e0 f0
                refine hK.out _ _ trivial (fun _ => ?_)
                clear hK K
                (try simp only [Act.put, List.setIfInBounds_toArray, List.set_cons_zero, List.set_cons_succ])
                have n_K1 := Aside0.mk (blk_far K1.out (p := ⟨w.heap.size + 1, 0, none⟩) (by show w.heap.size ≠ w.heap.size + 1; omega) (.int .i64 (wrap64 (x + wrap64 (p + e)))))
                have n_K3 := Aside0.mk (blk_set K3.out 0 (.int .i64 (wrap64 (x + wrap64 (p + e)))))
                have n_KB := Aside0.mk ((KB.out).setCell (p := ⟨w.heap.size + 1, 0, none⟩) (Nat.le_succ _) (.int .i64 (wrap64 (x + wrap64 (p + e)))))
                clear K1 K3 KB
                have K1 := n_K1
                have K3 := n_K3
                have KB := n_KB
                clear n_K1 n_K3 n_KB
                refine wpAnyH_done (by kernel_rfl) ?_ _
                go_wp2
                go_roundg g'
                case measure => omega
                case rel => exact ⟨n + 1, _, _, by simp, by omega, HREST, K1, K3, KB, by omega⟩
              refine AllReadyH.cons rfl (fun K hK => ?_) AllReadyH.nil
              show (if Region.wanted ⟨some 31, .call _, _, _, _, none⟩ _ = true then Oper.wp _ ⟨some 31, .call _, _, _, _, none⟩ _ _ _ _ else _)
              go_simp
              refine (value_Piece.calls _ _ _ _ HP.out).mono ?_
              rintro e w7 ⟨rfl, hd⟩
              have hb := hd.below
              have n_K1 := Aside0.mk (blk_below K1.out hb)
              have n_K3 := Aside0.mk (blk_below K3.out hb)
              have n_KB := Aside0.mk (below_step KB.out hb)
              clear K1 K3 KB
              have K1 := n_K1
              have K3 := n_K3
              have KB := n_KB
              clear n_K1 n_K3 n_KB
              clear hd hb
              refine hK.out _ _ trivial (fun _ => ?_)
              clear hK K
              (try simp only [Act.put, List.setIfInBounds_toArray, List.set_cons_zero, List.set_cons_succ])
              refine wpAnyH_ready (rs := [2, 7]) (by kernel_rfl) (by simp) ?_
              refine AllReadyH.cons rfl (fun K hK => ?_) ?_
              · show (if Region.wanted ⟨some 28, .load _ (.tmp 27), _, _, _, none⟩ _ = true then Oper.wp _ ⟨some 28, .load _ (.tmp 27), _, _, _, none⟩ _ _ _ _ else _)
                have e0 := (blk_cell K3.out 0).trans (show _ = some (Value.int .i64 x) from rfl)
                go_simp
                clear e0
                refine hK.out _ _ trivial (fun _ => ?_)
                clear hK K
                (try simp only [Act.put, List.setIfInBounds_toArray, List.set_cons_zero, List.set_cons_succ])
                refine wpAnyH_ready (rs := [7]) (by kernel_rfl) (by simp) ?_
                refine AllReadyH.cons rfl (fun K hK => ?_) AllReadyH.nil
                show (if Region.wanted ⟨some 33, .call _, _, _, _, none⟩ _ = true then Oper.wp _ ⟨some 33, .call _, _, _, _, none⟩ _ _ _ _ else _)
                go_simp
                refine (value_Square.calls _ _ _ HE.out).mono ?_
                rintro e w7 ⟨rfl, hd⟩
                have hb := hd.below
                have n_K1 := Aside0.mk (blk_below K1.out hb)
                have n_K3 := Aside0.mk (blk_below K3.out hb)
                have n_KB := Aside0.mk (below_step KB.out hb)
                clear K1 K3 KB
                have K1 := n_K1
                have K3 := n_K3
                have KB := n_KB
                clear n_K1 n_K3 n_KB
                clear hd hb
                refine hK.out _ _ trivial (fun _ => ?_)
                clear hK K
                (try simp only [Act.put, List.setIfInBounds_toArray, List.set_cons_zero, List.set_cons_succ])
                refine wpAnyH_take (i := 8) (v := ?_) rfl (by kernel_rfl) (by kernel_rfl) (by kernel_rfl) (fun _ _ _ h => h) (Or.inl ⟨by rfl, ?_⟩) trivial ?_
                rotate_left
                · intro w _
                  go_simp
                  try with_reducible rfl
                show wpAnyH _ _ _ _ _ _ _ (Act.put _ (some 34) _) _
                (try simp only [Act.put, List.setIfInBounds_toArray, List.set_cons_zero, List.set_cons_succ])
                refine wpAnyH_take (i := 9) (v := ?_) rfl (by kernel_rfl) (by kernel_rfl) (by kernel_rfl) (fun _ _ _ h => h) (Or.inl ⟨by rfl, ?_⟩) trivial ?_
                rotate_left
                · intro w _
                  go_simp
                  try with_reducible rfl
                show wpAnyH _ _ _ _ _ _ _ (Act.put _ (some 35) _) _
                (try simp only [Act.put, List.setIfInBounds_toArray, List.set_cons_zero, List.set_cons_succ])
                refine wpAnyH_take (i := 10) (v := ?_) rfl (by kernel_rfl) (by kernel_rfl) (by kernel_rfl) (fun _ _ _ h => h) (Or.inl ⟨by rfl, ?_⟩) trivial ?_
                rotate_left
                · intro w _
                  go_simp
                  try with_reducible rfl
                show wpAnyH _ _ _ _ _ _ _ (Act.put _ (some 36) _) _
                (try simp only [Act.put, List.setIfInBounds_toArray, List.set_cons_zero, List.set_cons_succ])
                refine wpAnyH_ready (rs := [11]) (by kernel_rfl) (by simp) ?_
                refine AllReadyH.cons rfl (fun K hK => ?_) AllReadyH.nil
                show (if Region.wanted ⟨none, .store _ (.tmp 36) (.tmp 35), _, _, _, none⟩ _ = true then Oper.wp _ ⟨none, .store _ (.tmp 36) (.tmp 35), _, _, _, none⟩ _ _ _ _ else _)
                have e0 := (blk_cell K3.out 0).trans (show _ = some (Value.int .i64 x) from rfl)
                have f0 := blk_frozen K3.out 0
                go_simp
                clear e0 f0
                refine hK.out _ _ trivial (fun _ => ?_)
                clear hK K
                (try simp only [Act.put, List.setIfInBounds_toArray, List.set_cons_zero, List.set_cons_succ])
                have n_K1 := Aside0.mk (blk_far K1.out (p := ⟨w.heap.size + 1, 0, none⟩) (by show w.heap.size ≠ w.heap.size + 1; omega) (.int .i64 (wrap64 (x + wrap64 (p + e)))))
                have n_K3 := Aside0.mk (blk_set K3.out 0 (.int .i64 (wrap64 (x + wrap64 (p + e)))))
                have n_KB := Aside0.mk ((KB.out).setCell (p := ⟨w.heap.size + 1, 0, none⟩) (Nat.le_succ _) (.int .i64 (wrap64 (x + wrap64 (p + e)))))
                clear K1 K3 KB
                have K1 := n_K1
                have K3 := n_K3
                have KB := n_KB
                clear n_K1 n_K3 n_KB
                refine wpAnyH_done (by kernel_rfl) ?_ _
                go_wp2
                go_roundg g'
                case measure => omega
                case rel => exact ⟨n + 1, _, _, by simp, by omega, HREST, K1, K3, KB, by omega⟩
              refine AllReadyH.cons rfl (fun K hK => ?_) AllReadyH.nil
              show (if Region.wanted ⟨some 33, .call _, _, _, _, none⟩ _ = true then Oper.wp _ ⟨some 33, .call _, _, _, _, none⟩ _ _ _ _ else _)
              go_simp
              refine (value_Square.calls _ _ _ HE.out).mono ?_
              rintro e w7 ⟨rfl, hd⟩
              have hb := hd.below
              have n_K1 := Aside0.mk (blk_below K1.out hb)
              have n_K3 := Aside0.mk (blk_below K3.out hb)
              have n_KB := Aside0.mk (below_step KB.out hb)
              clear K1 K3 KB
              have K1 := n_K1
              have K3 := n_K3
              have KB := n_KB
              clear n_K1 n_K3 n_KB
              clear hd hb
              refine hK.out _ _ trivial (fun _ => ?_)
              clear hK K
              (try simp only [Act.put, List.setIfInBounds_toArray, List.set_cons_zero, List.set_cons_succ])
              refine wpAnyH_take (i := 8) (v := ?_) rfl (by kernel_rfl) (by kernel_rfl) (by kernel_rfl) (fun _ _ _ h => h) (Or.inl ⟨by rfl, ?_⟩) trivial ?_
              rotate_left
              · intro w _
                go_simp
                try with_reducible rfl
              show wpAnyH _ _ _ _ _ _ _ (Act.put _ (some 34) _) _
              (try simp only [Act.put, List.setIfInBounds_toArray, List.set_cons_zero, List.set_cons_succ])
              refine wpAnyH_ready (rs := [2]) (by kernel_rfl) (by simp) ?_
              refine AllReadyH.cons rfl (fun K hK => ?_) AllReadyH.nil
              show (if Region.wanted ⟨some 28, .load _ (.tmp 27), _, _, _, none⟩ _ = true then Oper.wp _ ⟨some 28, .load _ (.tmp 27), _, _, _, none⟩ _ _ _ _ else _)
              have e0 := (blk_cell K3.out 0).trans (show _ = some (Value.int .i64 x) from rfl)
              go_simp
              clear e0
              refine hK.out _ _ trivial (fun _ => ?_)
              clear hK K
              (try simp only [Act.put, List.setIfInBounds_toArray, List.set_cons_zero, List.set_cons_succ])
              refine wpAnyH_take (i := 9) (v := ?_) rfl (by kernel_rfl) (by kernel_rfl) (by kernel_rfl) (fun _ _ _ h => h) (Or.inl ⟨by rfl, ?_⟩) trivial ?_
              rotate_left
              · intro w _
                go_simp
                try with_reducible rfl
              show wpAnyH _ _ _ _ _ _ _ (Act.put _ (some 35) _) _
              (try simp only [Act.put, List.setIfInBounds_toArray, List.set_cons_zero, List.set_cons_succ])
              refine wpAnyH_take (i := 10) (v := ?_) rfl (by kernel_rfl) (by kernel_rfl) (by kernel_rfl) (fun _ _ _ h => h) (Or.inl ⟨by rfl, ?_⟩) trivial ?_
              rotate_left
              · intro w _
                go_simp
                try with_reducible rfl
              show wpAnyH _ _ _ _ _ _ _ (Act.put _ (some 36) _) _
              (try simp only [Act.put, List.setIfInBounds_toArray, List.set_cons_zero, List.set_cons_succ])
              refine wpAnyH_ready (rs := [11]) (by kernel_rfl) (by simp) ?_
              refine AllReadyH.cons rfl (fun K hK => ?_) AllReadyH.nil
              show (if Region.wanted ⟨none, .store _ (.tmp 36) (.tmp 35), _, _, _, none⟩ _ = true then Oper.wp _ ⟨none, .store _ (.tmp 36) (.tmp 35), _, _, _, none⟩ _ _ _ _ else _)
              have e0 := (blk_cell K3.out 0).trans (show _ = some (Value.int .i64 x) from rfl)
              have f0 := blk_frozen K3.out 0
              go_simp
              clear e0 f0
              refine hK.out _ _ trivial (fun _ => ?_)
              clear hK K
              (try simp only [Act.put, List.setIfInBounds_toArray, List.set_cons_zero, List.set_cons_succ])
              have n_K1 := Aside0.mk (blk_far K1.out (p := ⟨w.heap.size + 1, 0, none⟩) (by show w.heap.size ≠ w.heap.size + 1; omega) (.int .i64 (wrap64 (x + wrap64 (p + e)))))
              have n_K3 := Aside0.mk (blk_set K3.out 0 (.int .i64 (wrap64 (x + wrap64 (p + e)))))
              have n_KB := Aside0.mk ((KB.out).setCell (p := ⟨w.heap.size + 1, 0, none⟩) (Nat.le_succ _) (.int .i64 (wrap64 (x + wrap64 (p + e)))))
              clear K1 K3 KB
              have K1 := n_K1
              have K3 := n_K3
              have KB := n_KB
              clear n_K1 n_K3 n_KB
              refine wpAnyH_done (by kernel_rfl) ?_ _
              go_wp2
              go_roundg g'
              case measure => omega
              case rel => exact ⟨n + 1, _, _, by simp, by omega, HREST, K1, K3, KB, by omega⟩
            · have ex : x2 = x ∧ y2 = wrap64 (y + wrap64 (p + e)) := by
                simp [value_Of.addTo] at hc5
                exact ⟨hc5.1.symm, hc5.2.symm⟩
              obtain ⟨rfl, rfl⟩ := ex
              clear hc5
              go_upto_region 7 with (first | (go_at_call 43; refine (piece_Kind.calls _ _ _ _ HK.out).mono ?_; rintro e w' ⟨rfl, ⟨n2, rfl⟩⟩))
              have n_K1 := Aside0.mk (blk_drewN K1.out n2)
              have n_K3 := Aside0.mk (blk_drewN K3.out n2)
              have n_KB := Aside0.mk (pw_below_drewN KB.out n2)
              clear K1 K3 KB
              have K1 := n_K1
              have K3 := n_K3
              have KB := n_KB
              clear n_K1 n_K3 n_KB
              generalize W1.drewN n2 = W2 at *
              refine wp_region_held_drew (S := fun _ => True) (by kernel_rfl) trivial (fun _ => ?_)
              have n_K1 := Aside0.mk (blk_drew K1.out)
              have n_K3 := Aside0.mk (blk_drew K3.out)
              have n_KB := Aside0.mk (below_drew KB.out)
              clear K1 K3 KB
              have K1 := n_K1
              have K3 := n_K3
              have KB := n_KB
              clear n_K1 n_K3 n_KB
              refine wpAnyH_take (i := 0) (v := ?_) rfl (by kernel_rfl) (by kernel_rfl) (by kernel_rfl) (fun _ _ _ h => h) (Or.inl ⟨by rfl, ?_⟩) trivial ?_
              rotate_left
              · intro w _
                go_simp
                try with_reducible rfl
              show wpAnyH _ _ _ _ _ _ _ (Act.put _ (some 26) _) _
              (try simp only [Act.put, List.setIfInBounds_toArray, List.set_cons_zero, List.set_cons_succ])
              refine wpAnyH_take (i := 1) (v := ?_) rfl (by kernel_rfl) (by kernel_rfl) (by kernel_rfl) (fun _ _ _ h => h) (Or.inl ⟨by rfl, ?_⟩) trivial ?_
              rotate_left
              · intro w _
                go_simp
                try with_reducible rfl
              show wpAnyH _ _ _ _ _ _ _ (Act.put _ (some 27) _) _
              (try simp only [Act.put, List.setIfInBounds_toArray, List.set_cons_zero, List.set_cons_succ])
              refine wpAnyH_take (i := 3) (v := ?_) rfl (by kernel_rfl) (by kernel_rfl) (by kernel_rfl) (fun _ _ _ h => h) (Or.inl ⟨by rfl, ?_⟩) trivial ?_
              rotate_left
              · intro w _
                go_simp
                try with_reducible rfl
              show wpAnyH _ _ _ _ _ _ _ (Act.put _ (some 29) _) _
              (try simp only [Act.put, List.setIfInBounds_toArray, List.set_cons_zero, List.set_cons_succ])
              refine wpAnyH_take (i := 6) (v := ?_) rfl (by kernel_rfl) (by kernel_rfl) (by kernel_rfl) (fun _ _ _ h => h) (Or.inl ⟨by rfl, ?_⟩) trivial ?_
              rotate_left
              · intro w _
                go_simp
                try with_reducible rfl
              show wpAnyH _ _ _ _ _ _ _ (Act.put _ (some 32) _) _
              (try simp only [Act.put, List.setIfInBounds_toArray, List.set_cons_zero, List.set_cons_succ])
              refine wpAnyH_ready (rs := [2, 4]) (by kernel_rfl) (by simp) ?_
              refine AllReadyH.cons rfl (fun K hK => ?_) ?_
              · show (if Region.wanted ⟨some 28, .load _ (.tmp 27), _, _, _, none⟩ _ = true then Oper.wp _ ⟨some 28, .load _ (.tmp 27), _, _, _, none⟩ _ _ _ _ else _)
                have e0 := (blk_cell K3.out 1).trans (show _ = some (Value.int .i64 y) from rfl)
                go_simp
                clear e0
                refine hK.out _ _ trivial (fun _ => ?_)
                clear hK K
                (try simp only [Act.put, List.setIfInBounds_toArray, List.set_cons_zero, List.set_cons_succ])
                refine wpAnyH_ready (rs := [4]) (by kernel_rfl) (by simp) ?_
                refine AllReadyH.cons rfl (fun K hK => ?_) AllReadyH.nil
                show (if Region.wanted ⟨some 30, .call _, _, _, _, none⟩ _ = true then Oper.wp _ ⟨some 30, .call _, _, _, _, none⟩ _ _ _ _ else _)
                go_simp
                refine (piece_Kind.calls _ _ _ _ HK.out).mono ?_
                rintro e w7 ⟨rfl, hd⟩
                have hb := hd.below
                have n_K1 := Aside0.mk (blk_below K1.out hb)
                have n_K3 := Aside0.mk (blk_below K3.out hb)
                have n_KB := Aside0.mk (below_step KB.out hb)
                clear K1 K3 KB
                have K1 := n_K1
                have K3 := n_K3
                have KB := n_KB
                clear n_K1 n_K3 n_KB
                clear hd hb
                refine hK.out _ _ trivial (fun _ => ?_)
                clear hK K
                (try simp only [Act.put, List.setIfInBounds_toArray, List.set_cons_zero, List.set_cons_succ])
                refine wpAnyH_ready (rs := [5]) (by kernel_rfl) (by simp) ?_
                refine AllReadyH.cons rfl (fun K hK => ?_) AllReadyH.nil
                show (if Region.wanted ⟨some 31, .call _, _, _, _, none⟩ _ = true then Oper.wp _ ⟨some 31, .call _, _, _, _, none⟩ _ _ _ _ else _)
                go_simp
                refine (value_Piece.calls _ _ _ _ HP.out).mono ?_
                rintro e w7 ⟨rfl, hd⟩
                have hb := hd.below
                have n_K1 := Aside0.mk (blk_below K1.out hb)
                have n_K3 := Aside0.mk (blk_below K3.out hb)
                have n_KB := Aside0.mk (below_step KB.out hb)
                clear K1 K3 KB
                have K1 := n_K1
                have K3 := n_K3
                have KB := n_KB
                clear n_K1 n_K3 n_KB
                clear hd hb
                refine hK.out _ _ trivial (fun _ => ?_)
                clear hK K
                (try simp only [Act.put, List.setIfInBounds_toArray, List.set_cons_zero, List.set_cons_succ])
                refine wpAnyH_ready (rs := [7]) (by kernel_rfl) (by simp) ?_
                refine AllReadyH.cons rfl (fun K hK => ?_) AllReadyH.nil
                show (if Region.wanted ⟨some 33, .call _, _, _, _, none⟩ _ = true then Oper.wp _ ⟨some 33, .call _, _, _, _, none⟩ _ _ _ _ else _)
                go_simp
                refine (value_Square.calls _ _ _ HE.out).mono ?_
                rintro e w7 ⟨rfl, hd⟩
                have hb := hd.below
                have n_K1 := Aside0.mk (blk_below K1.out hb)
                have n_K3 := Aside0.mk (blk_below K3.out hb)
                have n_KB := Aside0.mk (below_step KB.out hb)
                clear K1 K3 KB
                have K1 := n_K1
                have K3 := n_K3
                have KB := n_KB
                clear n_K1 n_K3 n_KB
                clear hd hb
                refine hK.out _ _ trivial (fun _ => ?_)
                clear hK K
                (try simp only [Act.put, List.setIfInBounds_toArray, List.set_cons_zero, List.set_cons_succ])
                refine wpAnyH_take (i := 8) (v := ?_) rfl (by kernel_rfl) (by kernel_rfl) (by kernel_rfl) (fun _ _ _ h => h) (Or.inl ⟨by rfl, ?_⟩) trivial ?_
                rotate_left
                · intro w _
                  go_simp
                  try with_reducible rfl
                show wpAnyH _ _ _ _ _ _ _ (Act.put _ (some 34) _) _
                (try simp only [Act.put, List.setIfInBounds_toArray, List.set_cons_zero, List.set_cons_succ])
                refine wpAnyH_take (i := 9) (v := ?_) rfl (by kernel_rfl) (by kernel_rfl) (by kernel_rfl) (fun _ _ _ h => h) (Or.inl ⟨by rfl, ?_⟩) trivial ?_
                rotate_left
                · intro w _
                  go_simp
                  try with_reducible rfl
                show wpAnyH _ _ _ _ _ _ _ (Act.put _ (some 35) _) _
                (try simp only [Act.put, List.setIfInBounds_toArray, List.set_cons_zero, List.set_cons_succ])
                refine wpAnyH_take (i := 10) (v := ?_) rfl (by kernel_rfl) (by kernel_rfl) (by kernel_rfl) (fun _ _ _ h => h) (Or.inl ⟨by rfl, ?_⟩) trivial ?_
                rotate_left
                · intro w _
                  go_simp
                  try with_reducible rfl
                show wpAnyH _ _ _ _ _ _ _ (Act.put _ (some 36) _) _
                (try simp only [Act.put, List.setIfInBounds_toArray, List.set_cons_zero, List.set_cons_succ])
                refine wpAnyH_ready (rs := [11]) (by kernel_rfl) (by simp) ?_
                refine AllReadyH.cons rfl (fun K hK => ?_) AllReadyH.nil
                show (if Region.wanted ⟨none, .store _ (.tmp 36) (.tmp 35), _, _, _, none⟩ _ = true then Oper.wp _ ⟨none, .store _ (.tmp 36) (.tmp 35), _, _, _, none⟩ _ _ _ _ else _)
                have e0 := (blk_cell K3.out 1).trans (show _ = some (Value.int .i64 y) from rfl)
                have f0 := blk_frozen K3.out 1
                go_simp
                clear e0 f0
                refine hK.out _ _ trivial (fun _ => ?_)
                clear hK K
                (try simp only [Act.put, List.setIfInBounds_toArray, List.set_cons_zero, List.set_cons_succ])
                have n_K1 := Aside0.mk (blk_far K1.out (p := ⟨w.heap.size + 1, 1, none⟩) (by show w.heap.size ≠ w.heap.size + 1; omega) (.int .i64 (wrap64 (y + wrap64 (p + e)))))
                have n_K3 := Aside0.mk (blk_set K3.out 1 (.int .i64 (wrap64 (y + wrap64 (p + e)))))
                have n_KB := Aside0.mk ((KB.out).setCell (p := ⟨w.heap.size + 1, 1, none⟩) (Nat.le_succ _) (.int .i64 (wrap64 (y + wrap64 (p + e)))))
                clear K1 K3 KB
                have K1 := n_K1
                have K3 := n_K3
                have KB := n_KB
                clear n_K1 n_K3 n_KB
                refine wpAnyH_done (by kernel_rfl) ?_ _
                go_wp2
                go_roundg g'
                case measure => omega
                case rel => exact ⟨n + 1, _, _, by simp, by omega, HREST, K1, K3, KB, by omega⟩
              refine AllReadyH.cons rfl (fun K hK => ?_) AllReadyH.nil
              show (if Region.wanted ⟨some 30, .call _, _, _, _, none⟩ _ = true then Oper.wp _ ⟨some 30, .call _, _, _, _, none⟩ _ _ _ _ else _)
              go_simp
              refine (piece_Kind.calls _ _ _ _ HK.out).mono ?_
              rintro e w7 ⟨rfl, hd⟩
              have hb := hd.below
              have n_K1 := Aside0.mk (blk_below K1.out hb)
              have n_K3 := Aside0.mk (blk_below K3.out hb)
              have n_KB := Aside0.mk (below_step KB.out hb)
              clear K1 K3 KB
              have K1 := n_K1
              have K3 := n_K3
              have KB := n_KB
              clear n_K1 n_K3 n_KB
              clear hd hb
              refine hK.out _ _ trivial (fun _ => ?_)
              clear hK K
              (try simp only [Act.put, List.setIfInBounds_toArray, List.set_cons_zero, List.set_cons_succ])
              refine wpAnyH_ready (rs := [2, 5]) (by kernel_rfl) (by simp) ?_
              refine AllReadyH.cons rfl (fun K hK => ?_) ?_
              · show (if Region.wanted ⟨some 28, .load _ (.tmp 27), _, _, _, none⟩ _ = true then Oper.wp _ ⟨some 28, .load _ (.tmp 27), _, _, _, none⟩ _ _ _ _ else _)
                have e0 := (blk_cell K3.out 1).trans (show _ = some (Value.int .i64 y) from rfl)
                go_simp
                clear e0
                refine hK.out _ _ trivial (fun _ => ?_)
                clear hK K
                (try simp only [Act.put, List.setIfInBounds_toArray, List.set_cons_zero, List.set_cons_succ])
                refine wpAnyH_ready (rs := [5]) (by kernel_rfl) (by simp) ?_
                refine AllReadyH.cons rfl (fun K hK => ?_) AllReadyH.nil
                show (if Region.wanted ⟨some 31, .call _, _, _, _, none⟩ _ = true then Oper.wp _ ⟨some 31, .call _, _, _, _, none⟩ _ _ _ _ else _)
                go_simp
                refine (value_Piece.calls _ _ _ _ HP.out).mono ?_
                rintro e w7 ⟨rfl, hd⟩
                have hb := hd.below
                have n_K1 := Aside0.mk (blk_below K1.out hb)
                have n_K3 := Aside0.mk (blk_below K3.out hb)
                have n_KB := Aside0.mk (below_step KB.out hb)
                clear K1 K3 KB
                have K1 := n_K1
                have K3 := n_K3
                have KB := n_KB
                clear n_K1 n_K3 n_KB
                clear hd hb
                refine hK.out _ _ trivial (fun _ => ?_)
                clear hK K
                (try simp only [Act.put, List.setIfInBounds_toArray, List.set_cons_zero, List.set_cons_succ])
                refine wpAnyH_ready (rs := [7]) (by kernel_rfl) (by simp) ?_
                refine AllReadyH.cons rfl (fun K hK => ?_) AllReadyH.nil
                show (if Region.wanted ⟨some 33, .call _, _, _, _, none⟩ _ = true then Oper.wp _ ⟨some 33, .call _, _, _, _, none⟩ _ _ _ _ else _)
                go_simp
                refine (value_Square.calls _ _ _ HE.out).mono ?_
                rintro e w7 ⟨rfl, hd⟩
                have hb := hd.below
                have n_K1 := Aside0.mk (blk_below K1.out hb)
                have n_K3 := Aside0.mk (blk_below K3.out hb)
                have n_KB := Aside0.mk (below_step KB.out hb)
                clear K1 K3 KB
                have K1 := n_K1
                have K3 := n_K3
                have KB := n_KB
                clear n_K1 n_K3 n_KB
                clear hd hb
                refine hK.out _ _ trivial (fun _ => ?_)
                clear hK K
                (try simp only [Act.put, List.setIfInBounds_toArray, List.set_cons_zero, List.set_cons_succ])
                refine wpAnyH_take (i := 8) (v := ?_) rfl (by kernel_rfl) (by kernel_rfl) (by kernel_rfl) (fun _ _ _ h => h) (Or.inl ⟨by rfl, ?_⟩) trivial ?_
                rotate_left
                · intro w _
                  go_simp
                  try with_reducible rfl
                show wpAnyH _ _ _ _ _ _ _ (Act.put _ (some 34) _) _
                (try simp only [Act.put, List.setIfInBounds_toArray, List.set_cons_zero, List.set_cons_succ])
                refine wpAnyH_take (i := 9) (v := ?_) rfl (by kernel_rfl) (by kernel_rfl) (by kernel_rfl) (fun _ _ _ h => h) (Or.inl ⟨by rfl, ?_⟩) trivial ?_
                rotate_left
                · intro w _
                  go_simp
                  try with_reducible rfl
                show wpAnyH _ _ _ _ _ _ _ (Act.put _ (some 35) _) _
                (try simp only [Act.put, List.setIfInBounds_toArray, List.set_cons_zero, List.set_cons_succ])
                refine wpAnyH_take (i := 10) (v := ?_) rfl (by kernel_rfl) (by kernel_rfl) (by kernel_rfl) (fun _ _ _ h => h) (Or.inl ⟨by rfl, ?_⟩) trivial ?_
                rotate_left
                · intro w _
                  go_simp
                  try with_reducible rfl
                show wpAnyH _ _ _ _ _ _ _ (Act.put _ (some 36) _) _
                (try simp only [Act.put, List.setIfInBounds_toArray, List.set_cons_zero, List.set_cons_succ])
                refine wpAnyH_ready (rs := [11]) (by kernel_rfl) (by simp) ?_
                refine AllReadyH.cons rfl (fun K hK => ?_) AllReadyH.nil
                show (if Region.wanted ⟨none, .store _ (.tmp 36) (.tmp 35), _, _, _, none⟩ _ = true then Oper.wp _ ⟨none, .store _ (.tmp 36) (.tmp 35), _, _, _, none⟩ _ _ _ _ else _)
                have e0 := (blk_cell K3.out 1).trans (show _ = some (Value.int .i64 y) from rfl)
                have f0 := blk_frozen K3.out 1
                go_simp
                clear e0 f0
                refine hK.out _ _ trivial (fun _ => ?_)
                clear hK K
                (try simp only [Act.put, List.setIfInBounds_toArray, List.set_cons_zero, List.set_cons_succ])
                have n_K1 := Aside0.mk (blk_far K1.out (p := ⟨w.heap.size + 1, 1, none⟩) (by show w.heap.size ≠ w.heap.size + 1; omega) (.int .i64 (wrap64 (y + wrap64 (p + e)))))
                have n_K3 := Aside0.mk (blk_set K3.out 1 (.int .i64 (wrap64 (y + wrap64 (p + e)))))
                have n_KB := Aside0.mk ((KB.out).setCell (p := ⟨w.heap.size + 1, 1, none⟩) (Nat.le_succ _) (.int .i64 (wrap64 (y + wrap64 (p + e)))))
                clear K1 K3 KB
                have K1 := n_K1
                have K3 := n_K3
                have KB := n_KB
                clear n_K1 n_K3 n_KB
                refine wpAnyH_done (by kernel_rfl) ?_ _
                go_wp2
                go_roundg g'
                case measure => omega
                case rel => exact ⟨n + 1, _, _, by simp, by omega, HREST, K1, K3, KB, by omega⟩
              refine AllReadyH.cons rfl (fun K hK => ?_) AllReadyH.nil
              show (if Region.wanted ⟨some 31, .call _, _, _, _, none⟩ _ = true then Oper.wp _ ⟨some 31, .call _, _, _, _, none⟩ _ _ _ _ else _)
              go_simp
              refine (value_Piece.calls _ _ _ _ HP.out).mono ?_
              rintro e w7 ⟨rfl, hd⟩
              have hb := hd.below
              have n_K1 := Aside0.mk (blk_below K1.out hb)
              have n_K3 := Aside0.mk (blk_below K3.out hb)
              have n_KB := Aside0.mk (below_step KB.out hb)
              clear K1 K3 KB
              have K1 := n_K1
              have K3 := n_K3
              have KB := n_KB
              clear n_K1 n_K3 n_KB
              clear hd hb
              refine hK.out _ _ trivial (fun _ => ?_)
              clear hK K
              (try simp only [Act.put, List.setIfInBounds_toArray, List.set_cons_zero, List.set_cons_succ])
              refine wpAnyH_ready (rs := [2, 7]) (by kernel_rfl) (by simp) ?_
              refine AllReadyH.cons rfl (fun K hK => ?_) ?_
              · show (if Region.wanted ⟨some 28, .load _ (.tmp 27), _, _, _, none⟩ _ = true then Oper.wp _ ⟨some 28, .load _ (.tmp 27), _, _, _, none⟩ _ _ _ _ else _)
                have e0 := (blk_cell K3.out 1).trans (show _ = some (Value.int .i64 y) from rfl)
                go_simp
                clear e0
                refine hK.out _ _ trivial (fun _ => ?_)
                clear hK K
                (try simp only [Act.put, List.setIfInBounds_toArray, List.set_cons_zero, List.set_cons_succ])
                refine wpAnyH_ready (rs := [7]) (by kernel_rfl) (by simp) ?_
                refine AllReadyH.cons rfl (fun K hK => ?_) AllReadyH.nil
                show (if Region.wanted ⟨some 33, .call _, _, _, _, none⟩ _ = true then Oper.wp _ ⟨some 33, .call _, _, _, _, none⟩ _ _ _ _ else _)
                go_simp
                refine (value_Square.calls _ _ _ HE.out).mono ?_
                rintro e w7 ⟨rfl, hd⟩
                have hb := hd.below
                have n_K1 := Aside0.mk (blk_below K1.out hb)
                have n_K3 := Aside0.mk (blk_below K3.out hb)
                have n_KB := Aside0.mk (below_step KB.out hb)
                clear K1 K3 KB
                have K1 := n_K1
                have K3 := n_K3
                have KB := n_KB
                clear n_K1 n_K3 n_KB
                clear hd hb
                refine hK.out _ _ trivial (fun _ => ?_)
                clear hK K
                (try simp only [Act.put, List.setIfInBounds_toArray, List.set_cons_zero, List.set_cons_succ])
                refine wpAnyH_take (i := 8) (v := ?_) rfl (by kernel_rfl) (by kernel_rfl) (by kernel_rfl) (fun _ _ _ h => h) (Or.inl ⟨by rfl, ?_⟩) trivial ?_
                rotate_left
                · intro w _
                  go_simp
                  try with_reducible rfl
                show wpAnyH _ _ _ _ _ _ _ (Act.put _ (some 34) _) _
                (try simp only [Act.put, List.setIfInBounds_toArray, List.set_cons_zero, List.set_cons_succ])
                refine wpAnyH_take (i := 9) (v := ?_) rfl (by kernel_rfl) (by kernel_rfl) (by kernel_rfl) (fun _ _ _ h => h) (Or.inl ⟨by rfl, ?_⟩) trivial ?_
                rotate_left
                · intro w _
                  go_simp
                  try with_reducible rfl
                show wpAnyH _ _ _ _ _ _ _ (Act.put _ (some 35) _) _
                (try simp only [Act.put, List.setIfInBounds_toArray, List.set_cons_zero, List.set_cons_succ])
                refine wpAnyH_take (i := 10) (v := ?_) rfl (by kernel_rfl) (by kernel_rfl) (by kernel_rfl) (fun _ _ _ h => h) (Or.inl ⟨by rfl, ?_⟩) trivial ?_
                rotate_left
                · intro w _
                  go_simp
                  try with_reducible rfl
                show wpAnyH _ _ _ _ _ _ _ (Act.put _ (some 36) _) _
                (try simp only [Act.put, List.setIfInBounds_toArray, List.set_cons_zero, List.set_cons_succ])
                refine wpAnyH_ready (rs := [11]) (by kernel_rfl) (by simp) ?_
                refine AllReadyH.cons rfl (fun K hK => ?_) AllReadyH.nil
                show (if Region.wanted ⟨none, .store _ (.tmp 36) (.tmp 35), _, _, _, none⟩ _ = true then Oper.wp _ ⟨none, .store _ (.tmp 36) (.tmp 35), _, _, _, none⟩ _ _ _ _ else _)
                have e0 := (blk_cell K3.out 1).trans (show _ = some (Value.int .i64 y) from rfl)
                have f0 := blk_frozen K3.out 1
                go_simp
                clear e0 f0
                refine hK.out _ _ trivial (fun _ => ?_)
                clear hK K
                (try simp only [Act.put, List.setIfInBounds_toArray, List.set_cons_zero, List.set_cons_succ])
                have n_K1 := Aside0.mk (blk_far K1.out (p := ⟨w.heap.size + 1, 1, none⟩) (by show w.heap.size ≠ w.heap.size + 1; omega) (.int .i64 (wrap64 (y + wrap64 (p + e)))))
                have n_K3 := Aside0.mk (blk_set K3.out 1 (.int .i64 (wrap64 (y + wrap64 (p + e)))))
                have n_KB := Aside0.mk ((KB.out).setCell (p := ⟨w.heap.size + 1, 1, none⟩) (Nat.le_succ _) (.int .i64 (wrap64 (y + wrap64 (p + e)))))
                clear K1 K3 KB
                have K1 := n_K1
                have K3 := n_K3
                have KB := n_KB
                clear n_K1 n_K3 n_KB
                refine wpAnyH_done (by kernel_rfl) ?_ _
                go_wp2
                go_roundg g'
                case measure => omega
                case rel => exact ⟨n + 1, _, _, by simp, by omega, HREST, K1, K3, KB, by omega⟩
              refine AllReadyH.cons rfl (fun K hK => ?_) AllReadyH.nil
              show (if Region.wanted ⟨some 33, .call _, _, _, _, none⟩ _ = true then Oper.wp _ ⟨some 33, .call _, _, _, _, none⟩ _ _ _ _ else _)
              go_simp
              refine (value_Square.calls _ _ _ HE.out).mono ?_
              rintro e w7 ⟨rfl, hd⟩
              have hb := hd.below
              have n_K1 := Aside0.mk (blk_below K1.out hb)
              have n_K3 := Aside0.mk (blk_below K3.out hb)
              have n_KB := Aside0.mk (below_step KB.out hb)
              clear K1 K3 KB
              have K1 := n_K1
              have K3 := n_K3
              have KB := n_KB
              clear n_K1 n_K3 n_KB
              clear hd hb
              refine hK.out _ _ trivial (fun _ => ?_)
              clear hK K
              (try simp only [Act.put, List.setIfInBounds_toArray, List.set_cons_zero, List.set_cons_succ])
              refine wpAnyH_take (i := 8) (v := ?_) rfl (by kernel_rfl) (by kernel_rfl) (by kernel_rfl) (fun _ _ _ h => h) (Or.inl ⟨by rfl, ?_⟩) trivial ?_
              rotate_left
              · intro w _
                go_simp
                try with_reducible rfl
              show wpAnyH _ _ _ _ _ _ _ (Act.put _ (some 34) _) _
              (try simp only [Act.put, List.setIfInBounds_toArray, List.set_cons_zero, List.set_cons_succ])
              refine wpAnyH_ready (rs := [2]) (by kernel_rfl) (by simp) ?_
              refine AllReadyH.cons rfl (fun K hK => ?_) AllReadyH.nil
              show (if Region.wanted ⟨some 28, .load _ (.tmp 27), _, _, _, none⟩ _ = true then Oper.wp _ ⟨some 28, .load _ (.tmp 27), _, _, _, none⟩ _ _ _ _ else _)
              have e0 := (blk_cell K3.out 1).trans (show _ = some (Value.int .i64 y) from rfl)
              go_simp
              clear e0
              refine hK.out _ _ trivial (fun _ => ?_)
              clear hK K
              (try simp only [Act.put, List.setIfInBounds_toArray, List.set_cons_zero, List.set_cons_succ])
              refine wpAnyH_take (i := 9) (v := ?_) rfl (by kernel_rfl) (by kernel_rfl) (by kernel_rfl) (fun _ _ _ h => h) (Or.inl ⟨by rfl, ?_⟩) trivial ?_
              rotate_left
              · intro w _
                go_simp
                try with_reducible rfl
              show wpAnyH _ _ _ _ _ _ _ (Act.put _ (some 35) _) _
              (try simp only [Act.put, List.setIfInBounds_toArray, List.set_cons_zero, List.set_cons_succ])
              refine wpAnyH_take (i := 10) (v := ?_) rfl (by kernel_rfl) (by kernel_rfl) (by kernel_rfl) (fun _ _ _ h => h) (Or.inl ⟨by rfl, ?_⟩) trivial ?_
              rotate_left
              · intro w _
                go_simp
                try with_reducible rfl
              show wpAnyH _ _ _ _ _ _ _ (Act.put _ (some 36) _) _
              (try simp only [Act.put, List.setIfInBounds_toArray, List.set_cons_zero, List.set_cons_succ])
              refine wpAnyH_ready (rs := [11]) (by kernel_rfl) (by simp) ?_
              refine AllReadyH.cons rfl (fun K hK => ?_) AllReadyH.nil
              show (if Region.wanted ⟨none, .store _ (.tmp 36) (.tmp 35), _, _, _, none⟩ _ = true then Oper.wp _ ⟨none, .store _ (.tmp 36) (.tmp 35), _, _, _, none⟩ _ _ _ _ else _)
              have e0 := (blk_cell K3.out 1).trans (show _ = some (Value.int .i64 y) from rfl)
              have f0 := blk_frozen K3.out 1
              go_simp
              clear e0 f0
              refine hK.out _ _ trivial (fun _ => ?_)
              clear hK K
              (try simp only [Act.put, List.setIfInBounds_toArray, List.set_cons_zero, List.set_cons_succ])
              have n_K1 := Aside0.mk (blk_far K1.out (p := ⟨w.heap.size + 1, 1, none⟩) (by show w.heap.size ≠ w.heap.size + 1; omega) (.int .i64 (wrap64 (y + wrap64 (p + e)))))
              have n_K3 := Aside0.mk (blk_set K3.out 1 (.int .i64 (wrap64 (y + wrap64 (p + e)))))
              have n_KB := Aside0.mk ((KB.out).setCell (p := ⟨w.heap.size + 1, 1, none⟩) (Nat.le_succ _) (.int .i64 (wrap64 (y + wrap64 (p + e)))))
              clear K1 K3 KB
              have K1 := n_K1
              have K3 := n_K3
              have KB := n_KB
              clear n_K1 n_K3 n_KB
              refine wpAnyH_done (by kernel_rfl) ?_ _
              go_wp2
              go_roundg g'
              case measure => omega
              case rel => exact ⟨n + 1, _, _, by simp, by omega, HREST, K1, K3, KB, by omega⟩
          · rw [if_neg hs01] at hc5
            cases hc5
      · rw [if_neg hs0] at hc2
        simp only [Option.some.injEq, Prod.mk.injEq] at hc2
        obtain ⟨rfl, rfl⟩ := hc2
        have c0 : decide (0 ≤ s) = false := decide_eq_false hs0
        go_wp2
        go_roundg g'
        case measure => omega
        case rel => exact ⟨n + 1, x, y, by simp, by omega, HREST, K1, K3, KB, by omega⟩

end Go.Proofs.Ytmoeodcmfjnihab.Pa
