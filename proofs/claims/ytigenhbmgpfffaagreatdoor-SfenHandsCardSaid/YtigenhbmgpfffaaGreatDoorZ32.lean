import Derived.Test.YtigenhbmgpfffaaGreatDoorZ13
import Derived.Test.YtigenhbmgpfffaaGreatDoorZ25
import Derived.Test.YtigenhbmgpfffaaGreatDoorZ26
import Derived.Test.YtigenhbmgpfffaaGreatDoorZ29
import Derived.Test.YtigenhbmgpfffaaGreatDoorZ31
namespace Go.Proofs.YtigenhbmgpfffaaGreatDoor.Pa
open Go.RowKit Go.Proofs.YtigenhbmgpfffaaGreatDoorW.PrintWords Go.Proofs.YtigenhbmgpfffaaGreatDoorW.PrintLast Go.Proofs.YtigenhbmgpfffaaGreatDoorW.PrintMore
attribute [local go_sem] max2_int min2_int max_two min_two max_three min_three max_four min_four
set_option linter.unusedVariables false
set_option linter.unusedSimpArgs false
theorem eqi_plain (d : Nat) (a b : List Int) (W : World) : ∀ is : List Nat, (∀ i ∈ is, i < a.length ∧ i < b.length) → (Op.eqItems (d + 1) 23 1 (value_Of.pv a) (value_Of.pv b) is).run Tryz.prog W = .ok (is.all fun i => a.getD i 0 == b.getD i 0) W
  | [], _ => by simp [Op.eqItems]
  | i :: is, h => by
    obtain ⟨h1, h2⟩ := h i (List.mem_cons_self ..); have ih := eqi_plain d a b W is fun j hj => h j (List.mem_cons_of_mem _ hj); have q0 := run_part_plain W (e := 23) (P := Tryz.prog) (by kernel_rfl) (value_Of.pv_get a i h1); have q1 := run_part_plain W (e := 23) (P := Tryz.prog) (by kernel_rfl) (value_Of.pv_get b i h2); have e0 : (Op.equalIn (d + 1) 23 (.int .i8 (a.getD i 0)) (.int .i8 (b.getD i 0))).run Tryz.prog W = .ok (a.getD i 0 == b.getD i 0) W := run_equalIn_int (w := W) d 23 .i8 .i8 _ _ Tryz.underlying23; simp only [Op.eqItems, Nat.mul_one, Sem.run_bind, q0, q1, e0, Result.andThen_ok, Sem.run_ite]
    cases hb : (a.getD i 0 == b.getD i 0)
    · simp only [Bool.not_false, if_true, Sem.run_pure, List.all_cons, hb, Bool.false_and]
    · simp only [Bool.not_true, Bool.false_eq_true, if_false]
      rw [ih]; simp only [List.all_cons, hb, Bool.true_and]
theorem eqi_plain8 (d : Nat) (a b : List Int) (W : World) : ∀ is : List Nat, (∀ i ∈ is, i < a.length ∧ i < b.length) → (Op.eqItems (d + 1) 22 1 (value_Of.pv a) (value_Of.pv b) is).run Tryz.prog W = .ok (is.all fun i => a.getD i 0 == b.getD i 0) W
  | [], _ => by simp [Op.eqItems]
  | i :: is, h => by
    obtain ⟨h1, h2⟩ := h i (List.mem_cons_self ..); have ih := eqi_plain8 d a b W is fun j hj => h j (List.mem_cons_of_mem _ hj); have q0 := run_part_plain W (e := 22) (P := Tryz.prog) (by kernel_rfl) (value_Of.pv_get a i h1); have q1 := run_part_plain W (e := 22) (P := Tryz.prog) (by kernel_rfl) (value_Of.pv_get b i h2); have e0 : (Op.equalIn (d + 1) 22 (.int .i8 (a.getD i 0)) (.int .i8 (b.getD i 0))).run Tryz.prog W = .ok (a.getD i 0 == b.getD i 0) W := run_equalIn_int (w := W) d 22 .i8 .i8 _ _ Tryz.underlying22; simp only [Op.eqItems, Nat.mul_one, Sem.run_bind, q0, q1, e0, Result.andThen_ok, Sem.run_ite]
    cases hb : (a.getD i 0 == b.getD i 0)
    · simp only [Bool.not_false, if_true, Sem.run_pure, List.all_cons, hb, Bool.false_and]
    · simp only [Bool.not_true, Bool.false_eq_true, if_false]
      rw [ih]; simp only [List.all_cons, hb, Bool.true_and]
theorem all_eq (n : Nat) (a b : List Int) (ha : a.length = n) (hb : b.length = n) : ((List.range n).all fun i => a.getD i 0 == b.getD i 0) = decide (a = b) := by
  rw [Bool.eq_iff_iff, decide_eq_true_eq, List.all_eq_true]
  constructor
  · intro h
    apply List.ext_getElem (by omega)
    intro i h1 h2; have := h i (List.mem_range.2 (by omega)); rw [beq_iff_eq, List.getD_eq_getElem?_getD, List.getD_eq_getElem?_getD, List.getElem?_eq_getElem h1, List.getElem?_eq_getElem h2] at this; exact this
  · rintro rfl i _
    exact beq_self_eq_true _
theorem part_row (t : TypeId) (n off : Nat) (l : List Int) (W : World) (hc : Tryz.prog.cellsOf t = n) (hi : (Tryz.prog.info? t).isSome = true) (ha : (isAgg t).run Tryz.prog W = .ok true W) : (part t (value_Of.pv l) off).run Tryz.prog W = .ok (.agg (value_Of.pv ((l.drop off).take n))) W := by
  obtain ⟨i, hi1⟩ := Option.isSome_iff_exists.1 hi; have hs := run_sizeOf W hi1; simp only [part, Sem.run_bind, ha, hs, Result.andThen_ok, if_true, hc, Sem.run_pure]
  have e : (value_Of.pv l).extract off (off + n) = value_Of.pv ((l.drop off).take n) := by
    apply Array.toList_inj.1
    simp [value_Of.pv, List.map_drop, List.map_take]
  rw [e]
set_option maxRecDepth 100000 in
theorem eq81 (d : Nat) (a b : List Int) (W : World) (ha : a.length = 81) (hb : b.length = 81) : (Op.equalIn (d + 2) 24 (.agg (value_Of.pv a)) (.agg (value_Of.pv b))).run Tryz.prog W = .ok (decide (a = b)) W := by
  have h1 : (Tryz.prog.info? 23).isSome = true := by kernel_rfl
  obtain ⟨i, hi⟩ := Option.isSome_iff_exists.1 h1
  have hc : Tryz.prog.cellsOf 23 = 1 := by kernel_rfl
  have e1 := run_equalIn_array W (d + 1) (value_Of.pv a) (value_Of.pv b) Tryz.underlying24 hi; rw [hc] at e1; refine e1.trans ((eqi_plain d a b W (List.range 81) (fun i hi => ?_)).trans ?_)
  · have := List.mem_range.1 hi
    omega
  · exact congrArg (fun z => Result.ok z W) (all_eq 81 a b ha hb)
theorem eq8 (d : Nat) (a b : List Int) (W : World) (ha : a.length = 8) (hb : b.length = 8) : (Op.equalIn (d + 2) 25 (.agg (value_Of.pv a)) (.agg (value_Of.pv b))).run Tryz.prog W = .ok (decide (a = b)) W := by
  have h1 : (Tryz.prog.info? 22).isSome = true := by kernel_rfl
  obtain ⟨i, hi⟩ := Option.isSome_iff_exists.1 h1
  have hc : Tryz.prog.cellsOf 22 = 1 := by kernel_rfl
  rw [run_equalIn_array W (d + 1) _ _ Tryz.underlying25 hi, hc, eqi_plain8 d a b W _ (fun i hi => by have := List.mem_range.1 hi; omega), all_eq 8 a b ha hb]
theorem agg8 (W : World) : (isAgg 25).run Tryz.prog W = .ok true W := by simp only [isAgg, Sem.run_bind, run_underlying Tryz.underlying25, Result.andThen_ok, Sem.run_pure]
theorem agg81 (W : World) : (isAgg 24).run Tryz.prog W = .ok true W := by simp only [isAgg, Sem.run_bind, run_underlying Tryz.underlying24, Result.andThen_ok, Sem.run_pure]
theorem agg16 (W : World) : (isAgg 26).run Tryz.prog W = .ok true W := by simp only [isAgg, Sem.run_bind, run_underlying Tryz.underlying26, Result.andThen_ok, Sem.run_pure]
theorem eq16 (d : Nat) (a b : List Int) (W : World) (ha : a.length = 16) (hb : b.length = 16) : (Op.equalIn (d + 3) 26 (.agg (value_Of.pv a)) (.agg (value_Of.pv b))).run Tryz.prog W = .ok (decide (a = b)) W := by
  have h1 : (Tryz.prog.info? 25).isSome = true := by kernel_rfl
  obtain ⟨i, hi⟩ := Option.isSome_iff_exists.1 h1
  have hc : Tryz.prog.cellsOf 25 = 8 := by kernel_rfl
  rw [run_equalIn_array W (d + 2) _ _ Tryz.underlying26 hi, hc, show List.range 2 = [0, 1] from rfl]; have p (l : List Int) (o : Nat) := part_row 25 8 o l W hc h1 (agg8 W); have e0 := eq8 d ((a.drop (0 * 8)).take 8) ((b.drop (0 * 8)).take 8) W (by simp [ha]) (by simp [hb]); have e1 := eq8 d ((a.drop (1 * 8)).take 8) ((b.drop (1 * 8)).take 8) W (by simp [ha]) (by simp [hb])
  have hd : decide (a = b) = (decide ((a.drop (0 * 8)).take 8 = (b.drop (0 * 8)).take 8) && decide ((a.drop (1 * 8)).take 8 = (b.drop (1 * 8)).take 8)) := by
    rw [Bool.eq_iff_iff, Bool.and_eq_true, decide_eq_true_eq, decide_eq_true_eq, decide_eq_true_eq]
    constructor
    · rintro rfl; exact ⟨rfl, rfl⟩
    · rintro ⟨h0, h1⟩
      rw [Nat.zero_mul, List.drop_zero, List.drop_zero] at h0; rw [List.take_of_length_le (by simp [ha]), List.take_of_length_le (by simp [hb])] at h1; rw [← List.take_append_drop 8 a, ← List.take_append_drop 8 b, h0]
      congr 1
  simp only [Op.eqItems, Sem.run_bind, p, e0, e1, Result.andThen_ok, Sem.run_ite, Sem.run_pure]; rw [hd]
  cases decide ((a.drop (0 * 8)).take 8 = (b.drop (0 * 8)).take 8) <;> cases decide ((a.drop (1 * 8)).take 8 = (b.drop (1 * 8)).take 8) <;> rfl
theorem pos_stood : Tryz.prog.stoodInHeld 28 = false := by kernel_rfl
theorem pos_under : Tryz.prog.underlying 28 = some (.struct (Tryz.prog.fieldsOf 28)) := by unfold Program.fieldsOf; rw [Tryz.underlying28]
theorem pos_fields : (Tryz.prog.fieldsOf 28).toList.map (fun f => (f.name == "_", f.type, f.offset)) = [(false, 24, 0), (false, 26, 81), (false, 22, 97)] := by
  unfold Program.fieldsOf; rw [Tryz.underlying28]
  rfl
theorem pos_cut (a b : List Int) (ha : a.length = 98) (hb : b.length = 98) : decide (a = b) = (decide ((a.drop 0).take 81 = (b.drop 0).take 81) && (decide ((a.drop 81).take 16 = (b.drop 81).take 16) && (a.getD 97 0 == b.getD 97 0))) := by
  rw [Bool.eq_iff_iff, Bool.and_eq_true, Bool.and_eq_true, decide_eq_true_eq, decide_eq_true_eq, decide_eq_true_eq, beq_iff_eq]
  constructor
  · rintro rfl; exact ⟨rfl, rfl, rfl⟩
  · rintro ⟨h0, h1, h2⟩
    have f : ∀ l : List Int, l.length = 98 → (l.drop 0).take 81 ++ ((l.drop 81).take 16 ++ [l.getD 97 0]) = l := fun l hl => by
      have g : (l.drop 81).drop 16 = [l.getD 97 0] := by
        rw [List.drop_drop, show 81 + 16 = 97 from rfl, List.drop_eq_getElem_cons (by omega), List.drop_eq_nil_of_le (by omega), List.getD_eq_getElem?_getD, List.getElem?_eq_getElem (by omega)]; rfl
      rw [← g, List.take_append_drop, List.drop_zero, List.take_append_drop]
    have h3 : (a.drop 0).take 81 ++ ((a.drop 81).take 16 ++ [a.getD 97 0]) = (b.drop 0).take 81 ++ ((b.drop 81).take 16 ++ [b.getD 97 0]) := by rw [h0, h1, h2]
    exact (f a ha).symm.trans (h3.trans (f b hb))
theorem eqF_step (d : Nat) (xs ys : Array Value) (f : Field) (fs : List Field) (W : World) (x y : Value) (r r' : Bool) (hn : f.name ≠ "_") (hx : (part f.type xs f.offset).run Tryz.prog W = .ok x W) (hy : (part f.type ys f.offset).run Tryz.prog W = .ok y W) (he : (Op.equalIn d f.type x y).run Tryz.prog W = .ok r W) (hr : (Op.eqFields d xs ys fs).run Tryz.prog W = .ok r' W) :
    (Op.eqFields d xs ys (f :: fs)).run Tryz.prog W = .ok (r && r') W := by
  unfold Op.eqFields; rw [if_pos hn]; simp only [Sem.run_bind, hx, hy, he, Result.andThen_ok]
  cases r
  · rfl
  · rw [if_neg (by decide)]
    exact hr
set_option maxRecDepth 100000 in
theorem eqpos_d (d : Nat) (a b : List Int) (W : World) (ha : a.length = 98) (hb : b.length = 98) : (Op.equalIn (d + 4) 28 (.agg (value_Of.pv a)) (.agg (value_Of.pv b))).run Tryz.prog W = .ok (decide (a = b)) W := by
  rw [run_equalIn_struct W (d + 3) _ _ _ pos_under pos_stood]
  have i0 : (Tryz.prog.info? 24).isSome = true := by kernel_rfl
  have i1 : (Tryz.prog.info? 26).isSome = true := by kernel_rfl
  have p0 (l : List Int) := part_row 24 81 0 l W (by kernel_rfl) i0 (agg81 W); have p1 (l : List Int) := part_row 26 16 81 l W (by kernel_rfl) i1 (agg16 W); have p2 (l : List Int) (hl : l.length = 98) := run_part_plain W (e := 22) (P := Tryz.prog) (by kernel_rfl) (value_Of.pv_get l 97 (by omega)); have e0 : (Op.equalIn (d + 3) 24 (.agg (value_Of.pv ((a.drop 0).take 81))) (.agg (value_Of.pv ((b.drop 0).take 81)))).run Tryz.prog W = .ok (decide ((a.drop 0).take 81 = (b.drop 0).take 81)) W := eq81 (d + 1) ((a.drop 0).take 81) ((b.drop 0).take 81) W (by simp [ha]) (by simp [hb]); have e1 : (Op.equalIn (d + 3) 26 (.agg (value_Of.pv ((a.drop 81).take 16))) (.agg (value_Of.pv ((b.drop 81).take 16)))).run Tryz.prog W = .ok (decide ((a.drop 81).take 16 = (b.drop 81).take 16)) W := eq16 d ((a.drop 81).take 16) ((b.drop 81).take 16) W (by simp [ha]) (by simp [hb]); have e2 : (Op.equalIn (d + 3) 22 (.int .i8 (a.getD 97 0)) (.int .i8 (b.getD 97 0))).run Tryz.prog W = .ok (a.getD 97 0 == b.getD 97 0) W := run_equalIn_int (w := W) (d + 2) 22 .i8 .i8 _ _ Tryz.underlying22; have hd := pos_cut a b ha hb; have hf := pos_fields; generalize (Tryz.prog.fieldsOf 28).toList = fs at hf ⊢
  rcases fs with _ | ⟨f0, _ | ⟨f1, _ | ⟨f2, _ | ⟨f3, fs⟩⟩⟩⟩
  · cases hf
  · simp at hf
  · simp at hf
  · simp only [List.map_cons, List.map_nil, List.cons.injEq, Prod.mk.injEq, and_true] at hf
    obtain ⟨⟨n0, t0, o0⟩, ⟨n1, t1, o1⟩, n2, t2, o2⟩ := hf
    have q0 : f0.name ≠ "_" := by simpa using n0
    have q1 : f1.name ≠ "_" := by simpa using n1
    have q2 : f2.name ≠ "_" := by simpa using n2
    rw [hd]; refine eqF_step _ _ _ _ _ W _ _ _ _ q0 (by rw [t0, o0]; exact p0 a) (by rw [t0, o0]; exact p0 b) (by rw [t0]; exact e0) ?_; refine eqF_step _ _ _ _ _ W _ _ _ _ q1 (by rw [t1, o1]; exact p1 a) (by rw [t1, o1]; exact p1 b) (by rw [t1]; exact e1) ?_; rw [← Bool.and_true (a.getD 97 0 == b.getD 97 0)]; refine eqF_step _ _ _ _ _ W _ _ _ _ q2 (by rw [t2, o2]; exact p2 a ha) (by rw [t2, o2]; exact p2 b hb) (by rw [t2]; exact e2) ?_
    rfl
  · simp at hf
theorem eqpos (a b : List Int) (W : World) (ha : a.length = 98) (hb : b.length = 98) : (Op.equalIn 10000 28 (.agg (value_Of.pv a)) (.agg (value_Of.pv b))).run Tryz.prog W = .ok (decide (a = b)) W := eqpos_d 9996 a b W ha hb
theorem atoi_range : ∀ s v, atoiOk s = some v → -9223372036854775808 ≤ v ∧ v ≤ 9223372036854775807 := fun s v h => by
  unfold atoiOk at h
  cases hq : Lib.atoiAll s.data.toList
  · rename_i u
    rw [hq] at h; have e : u = v := Option.some.inj h; subst e; exact Lib.atoiAll_bounds hq
  · rw [hq] at h; cases h
  · rw [hq] at h; cases h
theorem name_le2 : ∀ (x : Int) (nm : ByteArray), piece_Name.f 20 x = some nm → nm.size ≤ 2 := fun x nm h => by
  have h2 : ∀ a b : Int, (strOfNums [a, b]).size = 2 := fun _ _ => rfl; have h1 : ∀ a : Int, (strOfNums [a]).size = 1 := fun _ => rfl; unfold piece_Name.f at h; obtain ⟨k, _, h⟩ := Option.bind_eq_some_iff.mp h
  split at h
  · obtain rfl := Option.some.inj h
    exact Nat.zero_le _
  · obtain ⟨r, _, h⟩ := Option.bind_eq_some_iff.mp h
    split at h
    · split at h
      · obtain ⟨s, _, h⟩ := Option.bind_eq_some_iff.mp h
        split at h <;> split at h <;> obtain rfl := Option.some.inj h
        · rw [h2]; exact Nat.le_refl _
        · rw [h1]; exact by decide
        · rw [h2]; exact Nat.le_refl _
        · rw [h1]; exact by decide
      · cases h
    · cases h
theorem kakugyolaw13_prints.e1 : sfen_Parse.f ⟨#[108, 110, 115, 103, 107, 103, 115, 110, 108, 47, 49, 114, 53, 98, 49, 47, 112, 112, 112, 112, 112, 112, 112, 112, 112, 47, 57, 47, 57, 47, 57, 47, 80, 80, 80, 80, 80, 80, 80, 80, 80, 47, 49, 66, 53, 82, 49, 47, 76, 78, 83, 71, 75, 71, 83, 78, 76, 32, 98, 32, 45, 32, 49]⟩ = some (board_Start.startL, 1, 0) := by kernel_rfl
theorem kakugyolaw13_prints.e2 : sfen_Print.f board_Start.startL 1 = some ⟨#[108, 110, 115, 103, 107, 103, 115, 110, 108, 47, 49, 114, 53, 98, 49, 47, 112, 112, 112, 112, 112, 112, 112, 112, 112, 47, 57, 47, 57, 47, 57, 47, 80, 80, 80, 80, 80, 80, 80, 80, 80, 47, 49, 66, 53, 82, 49, 47, 76, 78, 83, 71, 75, 71, 83, 78, 76, 32, 98, 32, 45, 32, 49]⟩ := by kernel_rfl
set_option maxRecDepth 100000 in
set_option maxHeartbeats 16000000 in
theorem kakugyolaw13_prints.calls (w : World) (henv : Env w) : Calls Tryz.prog 9 #[] w fun e w' => e = .returned (.bool true) ∧ Below w.heap.size w w' := by
  have hz := board_Start.zero
  have hll : board_Start.startL.length = 98 := by decide +kernel
  have HZ : Aside0 ((value_Of.pv board_Start.zl).size = 98) := ⟨by rw [value_Of.pv_size, board_Start.zl_len]⟩
  have E1 := Aside0.mk kakugyolaw13_prints.e1; have E2 := Aside0.mk kakugyolaw13_prints.e2
  obtain ⟨L, hL⟩ : ∃ L, board_Start.startL = L := ⟨_, rfl⟩
  have HL := Aside0.mk hL; rw [hL] at hll E1 E2; clear hL; have heq : ∀ W, (Op.equalIn 10000 28 (.agg (value_Of.pv L)) (.agg (value_Of.pv L))).run Tryz.prog W = .ok true W := fun W => (eqpos L L W hll hll).trans (by rw [decide_eq_true rfl]); have KB := Aside0.mk (Below.refl w.heap.size w); have KE := Aside0.mk henv; clear henv; go_enter Tryz.func9, Tryz.ntmps9; go_upto_region 2 with (first | (go_at_call 12; (with_reducible refine (sfen_Parse.parse_calls _ L 1 0 _ KE.out atoi_range E1.out).mono ?_); rintro e w7 ⟨rfl, hlen, hb⟩; clear hlen; have nB := Aside0.mk (below_step KB.out hb); have nE := Aside0.mk (KE.out.below hb); clear  KB KE hb; have KB := nB; have KE := nE; clear  nB nE) | ((with_reducible refine gate_store (t := 28) (p := 1) (v := .tmp 6) rfl ?_); refine value_Of.store rfl 28 (.tmp 1) (.tmp 6) rfl rfl rfl (blk_new _ _) HZ.out hll value_Of.infoP ?_; intro W3 s1 s2 s3; have K1 := Aside0.mk s1; have nB := Aside0.mk (s2 w.heap.size w KB.out.size (below_alloc KB.out _)); have nE := Aside0.mk (KE.out.below (s2 _ _ (Nat.le_refl _) (below_alloc (Below.refl _ _) _))); clear KB KE s1 s2 s3; have KB := nB; have KE := nE; clear nB nE)); generalize w7.heap.size = g1 at *; clear hz HZ E1; go_cut [0] (fun s0 wx => s0 = .bool true ∧ Aside0 (Below w.heap.size w wx))
  case first =>
    refine wp_region_held_drew (S := fun _ => True) (by kernel_rfl) trivial (fun _ => ?_); have nK1 := Aside0.mk (blk_drew K1.out); have nB := Aside0.mk (below_drew KB.out); have nE := Aside0.mk (KE.out.below (below_drew (Below.refl _ _))); clear K1 KB KE; have K1 := nK1; have KB := nB; have KE := nE; clear nK1 nB nE; refine tk 0 ?_; refine tk 1 ?_; refine tk 2 ?_; refine tk 3 ?_; refine tk 4 ?_; refine tk 5 ?_; refine tk 6 ?_; refine wpAnyH_ready (rs := [7, 8]) (by kernel_rfl) (by simp) ?_; refine AllReadyH.cons rfl (fun K hK => ?_) ?_
    · show (if Region.wanted ⟨some 16, .load 28 (.tmp 1), _, _, _, some (6, true)⟩ _ = true then Oper.wp _ ⟨some 16, .load 28 (.tmp 1), _, _, _, some (6, true)⟩ _ _ _ _ else _)
      rw [if_pos (by rfl)]; refine value_Of.wp_load 28 (.tmp 1) rfl rfl K1.out Tryz.underlying28 rfl value_Of.infoP (by omega) ?_; rw [show (L.drop 0).take 98 = L by rw [List.drop_zero, List.take_of_length_le (by omega)]]; refine ko hK ?_; clear hK K; refine on1 8 (fun K hK => ?_); show (if Region.wanted ⟨some 17, .call _, _, _, _, some (6, true)⟩ _ = true then Oper.wp _ ⟨some 17, .call _, _, _, _, some (6, true)⟩ _ _ _ _ else _); go_simp; refine (board_Start.start_calls _).mono ?_; rw [HL.out]; rintro e w7 ⟨rfl, hb⟩; have nK1 := Aside0.mk (blk_below K1.out hb); have nB := Aside0.mk (below_step KB.out hb); have nE := Aside0.mk (KE.out.below hb); clear K1 KB KE hb; have K1 := nK1; have KB := nB; have KE := nE; clear nK1 nB nE; refine ko hK ?_; clear hK K; refine tk 9 ?_; refine tk 10 ?_; refine tk 11 ?_; refine on1 12 (fun K hK => ?_); show (if Region.wanted ⟨some 21, .load 28 (.tmp 1), _, _, _, some (11, true)⟩ _ = true then Oper.wp _ ⟨some 21, .load 28 (.tmp 1), _, _, _, some (11, true)⟩ _ _ _ _ else _); rw [if_pos (by rfl)]; refine value_Of.wp_load 28 (.tmp 1) rfl rfl K1.out Tryz.underlying28 rfl value_Of.infoP (by omega) ?_; rw [show (L.drop 0).take 98 = L by rw [List.drop_zero, List.take_of_length_le (by omega)]]; refine ko hK ?_; clear hK K; refine on1 13 (fun K hK => ?_); show (if Region.wanted ⟨some 22, .call _, _, _, _, some (11, true)⟩ _ = true then Oper.wp _ ⟨some 22, .call _, _, _, _, some (11, true)⟩ _ _ _ _ else _); go_simp; refine (sfen_Print.print_calls L 1 _ _ KE.out.tab KE.out.pow hll name_le2 E2.out).mono ?_
      rintro e w7 ⟨rfl, hb⟩; have nK1 := Aside0.mk (blk_below K1.out hb); have nB := Aside0.mk (below_step KB.out hb); have nE := Aside0.mk (KE.out.below hb); clear K1 KB KE hb; have K1 := nK1; have KB := nB; have KE := nE; clear nK1 nB nE; refine ko hK ?_; clear hK K; refine tk 14 ?_; refine tk 15 ?_; refine tk 16 ?_; refine tk 17 ?_; refine tk 18 ?_; refine wpAnyH_done (by kernel_rfl) ?_ _; go_wp2; go_meet; exact ⟨rfl, KB⟩
    refine AllReadyH.cons rfl (fun K hK => ?_) AllReadyH.nil; show (if Region.wanted ⟨some 17, .call _, _, _, _, some (6, true)⟩ _ = true then Oper.wp _ ⟨some 17, .call _, _, _, _, some (6, true)⟩ _ _ _ _ else _); go_simp; refine (board_Start.start_calls _).mono ?_; rw [HL.out]; rintro e w7 ⟨rfl, hb⟩; have nK1 := Aside0.mk (blk_below K1.out hb); have nB := Aside0.mk (below_step KB.out hb); have nE := Aside0.mk (KE.out.below hb); clear K1 KB KE hb; have K1 := nK1; have KB := nB; have KE := nE; clear nK1 nB nE; refine ko hK ?_; clear hK K; refine on1 7 (fun K hK => ?_); show (if Region.wanted ⟨some 16, .load 28 (.tmp 1), _, _, _, some (6, true)⟩ _ = true then Oper.wp _ ⟨some 16, .load 28 (.tmp 1), _, _, _, some (6, true)⟩ _ _ _ _ else _); rw [if_pos (by rfl)]; refine value_Of.wp_load 28 (.tmp 1) rfl rfl K1.out Tryz.underlying28 rfl value_Of.infoP (by omega) ?_; rw [show (L.drop 0).take 98 = L by rw [List.drop_zero, List.take_of_length_le (by omega)]]; refine ko hK ?_; clear hK K; refine tk 9 ?_; refine tk 10 ?_; refine tk 11 ?_; refine on1 12 (fun K hK => ?_); show (if Region.wanted ⟨some 21, .load 28 (.tmp 1), _, _, _, some (11, true)⟩ _ = true then Oper.wp _ ⟨some 21, .load 28 (.tmp 1), _, _, _, some (11, true)⟩ _ _ _ _ else _); rw [if_pos (by rfl)]; refine value_Of.wp_load 28 (.tmp 1) rfl rfl K1.out Tryz.underlying28 rfl value_Of.infoP (by omega) ?_; rw [show (L.drop 0).take 98 = L by rw [List.drop_zero, List.take_of_length_le (by omega)]]; refine ko hK ?_; clear hK K; refine on1 13 (fun K hK => ?_)
    show (if Region.wanted ⟨some 22, .call _, _, _, _, some (11, true)⟩ _ = true then Oper.wp _ ⟨some 22, .call _, _, _, _, some (11, true)⟩ _ _ _ _ else _); go_simp; refine (sfen_Print.print_calls L 1 _ _ KE.out.tab KE.out.pow hll name_le2 E2.out).mono ?_; rintro e w7 ⟨rfl, hb⟩; have nK1 := Aside0.mk (blk_below K1.out hb); have nB := Aside0.mk (below_step KB.out hb); have nE := Aside0.mk (KE.out.below hb); clear K1 KB KE hb; have K1 := nK1; have KB := nB; have KE := nE; clear nK1 nB nE; refine ko hK ?_; clear hK K; refine tk 14 ?_; refine tk 15 ?_; refine tk 16 ?_; refine tk 17 ?_; refine tk 18 ?_; refine wpAnyH_done (by kernel_rfl) ?_ _; go_wp2; go_meet; exact ⟨rfl, KB⟩
  case rest =>
    clear K1 KB KE; obtain ⟨rfl, KB⟩ := hcut; go_wp2; go_ret; exact ⟨rfl, KB.out⟩
set_option maxRecDepth 100000 in
set_option maxHeartbeats 16000000 in
theorem kakugyolaw13_SfenApart.calls (a b : List Int) (x y : ByteArray) (w : World) (henv : Env w) (hla : a.length = 98) (hlb : b.length = 98) (hx : sfen_Print.f a 1 = some x) (hy : sfen_Print.f b 1 = some y) (hlaw : x.toList ≠ [] → y.toList ≠ [] → (x.toList == y.toList) = decide (a = b)) :
    Calls Tryz.prog 5 #[.agg (value_Of.pv a), .agg (value_Of.pv b)] w fun e w' => e = .returned (.bool true) ∧ Below w.heap.size w w' := by
  have EX := Aside0.mk hx; have EY := Aside0.mk hy; have HLAW := Aside0.mk hlaw; have B1 : ((w.alloc (Obj.cells (value_Of.pv a) 28)).alloc (Obj.cells (value_Of.pv b) 28)).heap[w.heap.size]? = some (.cells (value_Of.pv a) 28 (0, 0)) := blk_alloc (blk_new w _) _; have hsz : (w.alloc (Obj.cells (value_Of.pv a) 28)).heap.size = w.heap.size + 1 := Array.size_push _
  have B2 : ((w.alloc (Obj.cells (value_Of.pv a) 28)).alloc (Obj.cells (value_Of.pv b) 28)).heap[w.heap.size + 1]? = some (.cells (value_Of.pv b) 28 (0, 0)) := by
    have h := blk_new (w.alloc (Obj.cells (value_Of.pv a) 28)) (.cells (value_Of.pv b) 28 (0, 0)); rw [hsz] at h; exact h
  have BB : Below w.heap.size w ((w.alloc (Obj.cells (value_Of.pv a) 28)).alloc (Obj.cells (value_Of.pv b) 28)) := below_alloc (below_alloc (Below.refl _ _) _) _; have BE := henv.below BB; clear hx hy hlaw henv; go_enter Tryz.func5, Tryz.ntmps5; go_upto_region 1 with (fail); generalize (w.alloc (Obj.cells (value_Of.pv a) 28)).alloc (Obj.cells (value_Of.pv b) 28) = W at *; generalize w.heap.size + 1 = g2 at *; clear hsz; have K1 := Aside0.mk B1; have K2 := Aside0.mk B2; have KB := Aside0.mk BB; have KE := Aside0.mk BE; clear B1 B2 BB BE; go_upto_region 3 with (first | (go_at_call 9; refine (kakugyolaw13_prints.calls _ KE.out).mono ?_; rintro e w7 ⟨rfl, hb⟩; have nK1 := Aside0.mk (blk_below K1.out hb); have nK2 := Aside0.mk (blk_below K2.out hb); have nB := Aside0.mk (below_step KB.out hb); have nE := Aside0.mk (KE.out.below hb); clear K1 K2 KB KE hb; have K1 := nK1; have K2 := nK2; have KB := nB; have KE := nE; clear nK1 nK2 nB nE)); go_cut [5, 6] (fun s5 s6 wx => s5 = .string x ∧ s6 = .string y ∧ Aside0 (wx.heap[w.heap.size]? = some (.cells (value_Of.pv a) 28 (0, 0))) ∧ Aside0 (wx.heap[g2]? = some (.cells (value_Of.pv b) 28 (0, 0))) ∧ Aside0 (Below w.heap.size w wx))
  case first =>
    refine wp_region_held_drew (S := fun _ => True) (by kernel_rfl) trivial (fun _ => ?_); have nK1 := Aside0.mk (blk_drew K1.out); have nK2 := Aside0.mk (blk_drew K2.out); have nB := Aside0.mk (below_drew KB.out); have nE := Aside0.mk (KE.out.below (below_drew (Below.refl _ _))); clear K1 K2 KB KE; have K1 := nK1; have K2 := nK2; have KB := nB; have KE := nE; clear nK1 nK2 nB nE; refine wpAnyH_ready (rs := [0, 2]) (by kernel_rfl) (by simp) ?_; refine AllReadyH.cons rfl (fun K hK => ?_) ?_
    · show (if Region.wanted ⟨some 9, .load 28 (.tmp 2), _, _, _, none⟩ _ = true then Oper.wp _ ⟨some 9, .load 28 (.tmp 2), _, _, _, none⟩ _ _ _ _ else _)
      rw [if_pos (by rfl)]; refine value_Of.wp_load 28 (.tmp 2) rfl rfl K1.out Tryz.underlying28 rfl value_Of.infoP (by omega) ?_; rw [show (a.drop 0).take 98 = a by rw [List.drop_zero, List.take_of_length_le (by omega)]]; refine ko hK ?_; clear hK K; refine wpAnyH_ready (rs := [1, 2]) (by kernel_rfl) (by simp) ?_; refine AllReadyH.cons rfl (fun K hK => ?_) ?_
      · show (if Region.wanted ⟨some 10, .call _, _, _, _, none⟩ _ = true then Oper.wp _ ⟨some 10, .call _, _, _, _, none⟩ _ _ _ _ else _)
        go_simp; refine (sfen_Print.print_calls a 1 _ _ KE.out.tab KE.out.pow hla name_le2 EX.out).mono ?_; rintro e w7 ⟨rfl, hb⟩; have nK1 := Aside0.mk (blk_below K1.out hb); have nK2 := Aside0.mk (blk_below K2.out hb); have nB := Aside0.mk (below_step KB.out hb); have nE := Aside0.mk (KE.out.below hb); clear K1 K2 KB KE hb; have K1 := nK1; have K2 := nK2; have KB := nB; have KE := nE; clear nK1 nK2 nB nE; refine ko hK ?_; clear hK K; refine on1 2 (fun K hK => ?_); show (if Region.wanted ⟨some 11, .load 28 (.tmp 3), _, _, _, none⟩ _ = true then Oper.wp _ ⟨some 11, .load 28 (.tmp 3), _, _, _, none⟩ _ _ _ _ else _); rw [if_pos (by rfl)]; refine value_Of.wp_load 28 (.tmp 3) rfl rfl K2.out Tryz.underlying28 rfl value_Of.infoP (by omega) ?_; rw [show (b.drop 0).take 98 = b by rw [List.drop_zero, List.take_of_length_le (by omega)]]; refine ko hK ?_; clear hK K; refine on1 3 (fun K hK => ?_); show (if Region.wanted ⟨some 12, .call _, _, _, _, none⟩ _ = true then Oper.wp _ ⟨some 12, .call _, _, _, _, none⟩ _ _ _ _ else _); go_simp; refine (sfen_Print.print_calls b 1 _ _ KE.out.tab KE.out.pow hlb name_le2 EY.out).mono ?_; rintro e w7 ⟨rfl, hb⟩; have nK1 := Aside0.mk (blk_below K1.out hb); have nK2 := Aside0.mk (blk_below K2.out hb); have nB := Aside0.mk (below_step KB.out hb); have nE := Aside0.mk (KE.out.below hb); clear K1 K2 KB KE hb; have K1 := nK1; have K2 := nK2; have KB := nB; have KE := nE; clear nK1 nK2 nB nE; refine ko hK ?_; clear hK K; refine tk 4 ?_; refine tk 5 ?_; refine wpAnyH_done (by kernel_rfl) ?_ _
        go_wp2; go_meet; exact ⟨rfl, rfl, K1, K2, KB⟩
      refine AllReadyH.cons rfl (fun K hK => ?_) AllReadyH.nil; show (if Region.wanted ⟨some 11, .load 28 (.tmp 3), _, _, _, none⟩ _ = true then Oper.wp _ ⟨some 11, .load 28 (.tmp 3), _, _, _, none⟩ _ _ _ _ else _); rw [if_pos (by rfl)]; refine value_Of.wp_load 28 (.tmp 3) rfl rfl K2.out Tryz.underlying28 rfl value_Of.infoP (by omega) ?_; rw [show (b.drop 0).take 98 = b by rw [List.drop_zero, List.take_of_length_le (by omega)]]; refine ko hK ?_; clear hK K; refine on1 1 (fun K hK => ?_); show (if Region.wanted ⟨some 10, .call _, _, _, _, none⟩ _ = true then Oper.wp _ ⟨some 10, .call _, _, _, _, none⟩ _ _ _ _ else _); go_simp; refine (sfen_Print.print_calls a 1 _ _ KE.out.tab KE.out.pow hla name_le2 EX.out).mono ?_; rintro e w7 ⟨rfl, hb⟩; have nK1 := Aside0.mk (blk_below K1.out hb); have nK2 := Aside0.mk (blk_below K2.out hb); have nB := Aside0.mk (below_step KB.out hb); have nE := Aside0.mk (KE.out.below hb); clear K1 K2 KB KE hb; have K1 := nK1; have K2 := nK2; have KB := nB; have KE := nE; clear nK1 nK2 nB nE; refine ko hK ?_; clear hK K; refine on1 3 (fun K hK => ?_); show (if Region.wanted ⟨some 12, .call _, _, _, _, none⟩ _ = true then Oper.wp _ ⟨some 12, .call _, _, _, _, none⟩ _ _ _ _ else _); go_simp; refine (sfen_Print.print_calls b 1 _ _ KE.out.tab KE.out.pow hlb name_le2 EY.out).mono ?_; rintro e w7 ⟨rfl, hb⟩; have nK1 := Aside0.mk (blk_below K1.out hb); have nK2 := Aside0.mk (blk_below K2.out hb); have nB := Aside0.mk (below_step KB.out hb); have nE := Aside0.mk (KE.out.below hb)
      clear K1 K2 KB KE hb; have K1 := nK1; have K2 := nK2; have KB := nB; have KE := nE; clear nK1 nK2 nB nE; refine ko hK ?_; clear hK K; refine tk 4 ?_; refine tk 5 ?_; refine wpAnyH_done (by kernel_rfl) ?_ _; go_wp2; go_meet; exact ⟨rfl, rfl, K1, K2, KB⟩
    refine AllReadyH.cons rfl (fun K hK => ?_) AllReadyH.nil; show (if Region.wanted ⟨some 11, .load 28 (.tmp 3), _, _, _, none⟩ _ = true then Oper.wp _ ⟨some 11, .load 28 (.tmp 3), _, _, _, none⟩ _ _ _ _ else _); rw [if_pos (by rfl)]; refine value_Of.wp_load 28 (.tmp 3) rfl rfl K2.out Tryz.underlying28 rfl value_Of.infoP (by omega) ?_; rw [show (b.drop 0).take 98 = b by rw [List.drop_zero, List.take_of_length_le (by omega)]]; refine ko hK ?_; clear hK K; refine on1 0 (fun K hK => ?_); show (if Region.wanted ⟨some 9, .load 28 (.tmp 2), _, _, _, none⟩ _ = true then Oper.wp _ ⟨some 9, .load 28 (.tmp 2), _, _, _, none⟩ _ _ _ _ else _); rw [if_pos (by rfl)]; refine value_Of.wp_load 28 (.tmp 2) rfl rfl K1.out Tryz.underlying28 rfl value_Of.infoP (by omega) ?_; rw [show (a.drop 0).take 98 = a by rw [List.drop_zero, List.take_of_length_le (by omega)]]; refine ko hK ?_; clear hK K; refine on1 1 (fun K hK => ?_); show (if Region.wanted ⟨some 10, .call _, _, _, _, none⟩ _ = true then Oper.wp _ ⟨some 10, .call _, _, _, _, none⟩ _ _ _ _ else _); go_simp; refine (sfen_Print.print_calls a 1 _ _ KE.out.tab KE.out.pow hla name_le2 EX.out).mono ?_; rintro e w7 ⟨rfl, hb⟩; have nK1 := Aside0.mk (blk_below K1.out hb); have nK2 := Aside0.mk (blk_below K2.out hb); have nB := Aside0.mk (below_step KB.out hb); have nE := Aside0.mk (KE.out.below hb); clear K1 K2 KB KE hb; have K1 := nK1; have K2 := nK2; have KB := nB; have KE := nE; clear nK1 nK2 nB nE; refine ko hK ?_; clear hK K; refine on1 3 (fun K hK => ?_)
    show (if Region.wanted ⟨some 12, .call _, _, _, _, none⟩ _ = true then Oper.wp _ ⟨some 12, .call _, _, _, _, none⟩ _ _ _ _ else _); go_simp; refine (sfen_Print.print_calls b 1 _ _ KE.out.tab KE.out.pow hlb name_le2 EY.out).mono ?_; rintro e w7 ⟨rfl, hb⟩; have nK1 := Aside0.mk (blk_below K1.out hb); have nK2 := Aside0.mk (blk_below K2.out hb); have nB := Aside0.mk (below_step KB.out hb); have nE := Aside0.mk (KE.out.below hb); clear K1 K2 KB KE hb; have K1 := nK1; have K2 := nK2; have KB := nB; have KE := nE; clear nK1 nK2 nB nE; refine ko hK ?_; clear hK K; refine tk 4 ?_; refine tk 5 ?_; refine wpAnyH_done (by kernel_rfl) ?_ _; go_wp2; go_meet; exact ⟨rfl, rfl, K1, K2, KB⟩
  case rest =>
    clear K1 K2 KB KE; obtain ⟨rfl, rfl, K1, K2, KB⟩ := hcut
    by_cases hx0 : x.toList = []
    · have f0 : (x.toList == []) = true := by rw [hx0]; rfl
      go_wp2; go_ret; exact ⟨rfl, KB.out⟩
    · have f0 : (x.toList == []) = false := by rw [beq_eq_false_iff_ne]; exact hx0
      by_cases hy0 : y.toList = []
      · have f1 : (y.toList == []) = true := by rw [hy0]; rfl
        go_wp2; go_ret; exact ⟨rfl, KB.out⟩
      · have f1 : (y.toList == []) = false := by rw [beq_eq_false_iff_ne]; exact hy0
        have hl := HLAW.out hx0 hy0; have heq : ∀ W, (Op.equalIn 10000 28 (.agg (value_Of.pv a)) (.agg (value_Of.pv b))).run Tryz.prog W = .ok (decide (a = b)) W := fun W => eqpos a b W hla hlb; generalize decide (a = b) = r at *; clear hx0 hy0
        go_wp2_with (first | ((with_reducible refine gate_dst (N := 22) rfl ?_); refine value_Of.load rfl 28 (.tmp 2) rfl rfl K1.out Tryz.underlying28 rfl value_Of.infoP (by omega) ?_; rw [show (a.drop 0).take 98 = a by rw [List.drop_zero, List.take_of_length_le (by omega)]]) | ((with_reducible refine gate_dst (N := 23) rfl ?_); refine value_Of.load rfl 28 (.tmp 3) rfl rfl K2.out Tryz.underlying28 rfl value_Of.infoP (by omega) ?_; rw [show (b.drop 0).take 98 = b by rw [List.drop_zero, List.take_of_length_le (by omega)]]))
        go_ret; exact ⟨rfl, KB.out⟩
mutual
def kakugyolaw13_numberOf.j0 : Nat → ByteArray → Bool → Option (Int)
  | 0, _, _ => none
  | k + 1, x0, x17 => if x17 = true then (some 0) else (kakugyolaw13_numberOf.l0 k x0 0 (x0.size : Int) 0)
def kakugyolaw13_numberOf.l0 : Nat → ByteArray → Int → Int → Int → Option (Int)
  | 0, _, _, _, _ => none
  | k + 1, x0, x3, x19, x20 => if x20 < x19 then (if 0 ≤ x20 then (if x20 < (x0.size : Int) then (if (bt x0 x20) < 48 then (some 0) else (if (bt x0 x20) > 57 then (some 0) else (kakugyolaw13_numberOf.l0 k x0 (wrap64 ((wrap64 (10 * x3)) + (((bt x0 x20) - 48) % 256))) x19 (wrap64 (x20 + 1))))) else (none)) else (none)) else (some x3)
end
def kakugyolaw13_numberOf.f (k : Nat) (a0 : ByteArray) : Option (Int) := if (a0.size : Int) < 1 then (kakugyolaw13_numberOf.j0 k a0 true) else (if (a0.size : Int) > 4 then (kakugyolaw13_numberOf.j0 k a0 true) else (if 0 < (a0.size : Int) then (kakugyolaw13_numberOf.j0 k a0 ((bt a0 0) == 48)) else (none)))
theorem kakugyolaw13_numberOf.mono_l : ∀ k, (∀ y0 y1, LeO (kakugyolaw13_numberOf.j0 k y0 y1) (kakugyolaw13_numberOf.j0 (k + 1) y0 y1)) ∧ (∀ y0 y1 y2 y3, LeO (kakugyolaw13_numberOf.l0 k y0 y1 y2 y3) (kakugyolaw13_numberOf.l0 (k + 1) y0 y1 y2 y3))
  | 0 => ⟨fun _ _ r h => by simp [kakugyolaw13_numberOf.j0] at h, fun _ _ _ _ r h => by simp [kakugyolaw13_numberOf.l0] at h⟩
  | k + 1 => by
    obtain ⟨ih0, ih1⟩ := kakugyolaw13_numberOf.mono_l k; refine ⟨?_, ?_⟩
    · intro y0 y1
      unfold kakugyolaw13_numberOf.j0
      repeat' first
      | (with_reducible exact ih0 _ _)
      | (with_reducible exact ih1 _ _ _ _)
      | (with_reducible exact LeO.refl _)
      | (with_reducible exact LeO.none _)
      | (with_reducible refine LeO.ite ?_ ?_)
      | (with_reducible refine LeO.bind ?_ (fun _ => ?_))
      | exact ih0 _ _
      | exact ih1 _ _ _ _
      | exact LeO.none _
      | refine LeO.ite ?_ ?_
      | refine LeO.bind ?_ (fun _ => ?_)
    · intro y0 y1 y2 y3
      unfold kakugyolaw13_numberOf.l0
      repeat' first
      | (with_reducible exact ih0 _ _)
      | (with_reducible exact ih1 _ _ _ _)
      | (with_reducible exact LeO.refl _)
      | (with_reducible exact LeO.none _)
      | (with_reducible refine LeO.ite ?_ ?_)
      | (with_reducible refine LeO.bind ?_ (fun _ => ?_))
      | exact ih0 _ _
      | exact ih1 _ _ _ _
      | exact LeO.none _
      | refine LeO.ite ?_ ?_
      | refine LeO.bind ?_ (fun _ => ?_)
theorem kakugyolaw13_numberOf.mono : ∀ a0 k, LeO (kakugyolaw13_numberOf.f k a0) (kakugyolaw13_numberOf.f (k + 1) a0) := by
  intro a0 k; obtain ⟨ih0, ih1⟩ := kakugyolaw13_numberOf.mono_l k; unfold kakugyolaw13_numberOf.f
  repeat' first
      | (with_reducible exact ih0 _ _)
      | (with_reducible exact ih1 _ _ _ _)
      | (with_reducible exact LeO.refl _)
      | (with_reducible exact LeO.none _)
      | (with_reducible refine LeO.ite ?_ ?_)
      | (with_reducible refine LeO.bind ?_ (fun _ => ?_))
      | exact ih0 _ _
      | exact ih1 _ _ _ _
      | exact LeO.none _
      | refine LeO.ite ?_ ?_
      | refine LeO.bind ?_ (fun _ => ?_)
set_option maxHeartbeats 8000000 in
set_option maxRecDepth 100000 in
theorem kakugyolaw13_numberOf.calls (k : Nat) (a0 : ByteArray) (r : Int) (w : World) (h : kakugyolaw13_numberOf.f k a0 = some r) :
    Calls Tryz.prog 14 #[.string a0] w fun e w' => e = .returned (.int .i64 r) ∧ Drawn0 w w' := by
  have H : (if (a0.size : Int) < 1 then (kakugyolaw13_numberOf.j0 k a0 true) else (if (a0.size : Int) > 4 then (kakugyolaw13_numberOf.j0 k a0 true) else (if 0 < (a0.size : Int) then (kakugyolaw13_numberOf.j0 k a0 ((bt a0 0) == 48)) else (none)))) = some r := h; clear h; have HC2 := Aside0.mk H; clear H; go_enter Tryz.func14, Tryz.ntmps14; go_upto_region 1 with (fail); go_cut [17] (fun v17 wc => ∃ (kq : Nat) (x17_1 : Bool), v17 = .bool x17_1 ∧ Aside0 (kakugyolaw13_numberOf.j0 kq a0 x17_1 = some r) ∧ Aside0 (kq ≤ k) ∧ Drawn0 w wc)
  case first =>
    have H := HC2.out; clear HC2
    by_cases c3 : (a0.size : Int) < 1
    · rw [if_pos c3] at H
      have c3b0 : decide ((a0.size : Int) < 1) = true := decide_eq_true c3; have c3b1 : decide (a0.size < 1) = true := decide_eq_true (by omega); clear c3
      (first | rw [c3b0] | (simp only [i64_w, i32_w]; rw [c3b0]) | skip)
      have H' := Aside0.mk H; clear H; go_wp2; go_meet
      case rel => exact ⟨_, (true), (by first | rfl | (simp; done) | (simp [*]; done)), H', ⟨by first | omega | exact Nat.le_refl _⟩, by repeat (first | exact Drawn0.refl _ | apply Drawn0.step)⟩
    · rw [if_neg c3] at H
      have c3b0 : decide ((a0.size : Int) < 1) = false := decide_eq_false c3; have c3b1 : decide (a0.size < 1) = false := decide_eq_false (by omega); clear c3
      (first | rw [c3b0] | (simp only [i64_w, i32_w]; rw [c3b0]) | skip)
      by_cases c4 : (a0.size : Int) > 4
      · rw [if_pos c4] at H
        have c4b0 : decide (4 < (a0.size : Int)) = true := decide_eq_true c4; have c4b1 : decide (4 < a0.size) = true := decide_eq_true (by omega); clear c4; have H' := Aside0.mk H; clear H; go_wp2; go_meet
        case rel => exact ⟨_, (true), (by first | rfl | (simp; done) | (simp [*]; done)), H', ⟨by first | omega | exact Nat.le_refl _⟩, by repeat (first | exact Drawn0.refl _ | apply Drawn0.step)⟩
      · rw [if_neg c4] at H
        have c4b0 : decide (4 < (a0.size : Int)) = false := decide_eq_false c4; have c4b1 : decide (4 < a0.size) = false := decide_eq_false (by omega); clear c4
        by_cases c5 : 0 < (a0.size : Int)
        · rw [if_pos c5] at H
          have c5b0 : decide (0 < (a0.size : Int)) = true := decide_eq_true c5; have c5b1 : decide (0 < a0.size) = true := decide_eq_true (by omega); clear c5; have H' := Aside0.mk H; clear H
          have p6 : 0 ≤ (0 : Int) := (by omega)
          have q6 : 0 < a0.size := (by have : (0 : Int) < (a0.size : Int) := of_decide_eq_true (by first | (with_reducible assumption) | assumption); omega)
          have hx6 : ∀ h : 0 < a0.size, ((a0[0]'h).toNat : Int) = bt a0 0 := bt_at a0 0; clear p6; have qi6 : (0 < (a0.size : Int)) = True := eq_true (of_decide_eq_true (by first | (with_reducible assumption) | assumption)); replace q6 := eq_true q6; go_wp2; go_meet
          case rel => exact ⟨_, (((bt a0 0) == 48)), (by first | rfl | (simp; done) | (simp [*]; done)), H', ⟨by first | omega | exact Nat.le_refl _⟩, by repeat (first | exact Drawn0.refl _ | apply Drawn0.step)⟩
        · rw [if_neg c5] at H
          exact absurd H (by simp)
  case rest =>
    clear HC2
    try clear c1
    try clear p2
    try clear c3
    try clear c3b0
    try clear c3b1
    try clear c4
    try clear c4b0
    try clear c4b1
    try clear c5
    try clear c5b0
    try clear c5b1
    try clear p6
    try clear q6
    try clear hx6
    try clear qi6
    try clear p6
    try clear q6
    obtain ⟨kq, x17_1, rfl, HA, HJ1, ⟨mc1, rfl⟩⟩ := hcut
    cases kq with
    | zero => exact absurd HA.out (by simp [kakugyolaw13_numberOf.j0])
    | succ kj1 =>
      have H := HA.out; clear HA; simp only [kakugyolaw13_numberOf.j0] at H
      by_cases c7 : x17_1 = true
      · subst c7
        have H1 : (some 0) = some r := by rw [if_pos rfl] at H; exact H
        clear H; have H := H1; clear H1; obtain rfl := Option.some.inj H; go_wp2; go_ret; exact ⟨by first | rfl | (simp; done) | (simp [*]; done), by repeat (first | exact Drawn0.refl _ | apply Drawn0.step)⟩
      · replace c7 := Bool.eq_false_iff.mpr c7
        subst c7
        have H1 : (kakugyolaw13_numberOf.l0 kj1 a0 0 (a0.size : Int) 0) = some r := by rw [if_neg (show ¬ (false = true) by decide)] at H; exact H
        clear H; have H := H1; clear H1; have H' := Aside0.mk H; clear H; go_wp2
        go_loopg [3, 20] kj1 (fun kq v3 v20 w' => ∃ (x3_2 : Int) (x20_2 : Int), v3 = .int .i64 x3_2 ∧ v20 = .int .i64 x20_2 ∧ Aside0 (kakugyolaw13_numberOf.l0 kq a0 x3_2 (a0.size : Int) x20_2 = some r) ∧ Aside0 (kq ≤ kj1) ∧ Drawn0 w w')
        case atStart => exact ⟨(0), (0), (by first | rfl | (simp; done) | (simp [*]; done)), (by first | rfl | (simp; done) | (simp [*]; done)), H', ⟨Nat.le_refl _⟩, by repeat (first | exact Drawn0.refl _ | apply Drawn0.step)⟩
        case round =>
          clear H'
          try clear c1
          try clear p2
          try clear c3
          try clear c3b0
          try clear c3b1
          try clear c4
          try clear c4b0
          try clear c4b1
          try clear c5
          try clear c5b0
          try clear c5b1
          try clear p6
          try clear q6
          try clear hx6
          try clear qi6
          try clear c7
          try clear p2
          try clear p6
          try clear q6
          obtain ⟨x3_2, x20_2, rfl, rfl, HA, HK2, ⟨m2, rfl⟩⟩ := hrel
          cases gk with
          | zero => exact absurd HA.out (by simp [kakugyolaw13_numberOf.l0])
          | succ k2 =>
            have H := HA.out; clear HA; simp only [kakugyolaw13_numberOf.l0] at H
            by_cases c8 : x20_2 < (a0.size : Int)
            · rw [if_pos c8] at H
              have c8b0 : decide (x20_2 < (a0.size : Int)) = true := decide_eq_true c8; clear c8
              by_cases c9 : 0 ≤ x20_2
              · rw [if_pos c9] at H
                have c9b0 : decide (0 ≤ x20_2) = true := decide_eq_true c9; clear c9
                by_cases c10 : x20_2 < (a0.size : Int)
                · rw [if_pos c10] at H
                  have c10b0 : decide (x20_2 < (a0.size : Int)) = true := decide_eq_true c10; clear c10
                  by_cases c12 : (bt a0 x20_2) < 48
                  · rw [if_pos c12] at H
                    have c12b0 : decide ((bt a0 x20_2) < 48) = true := decide_eq_true c12; clear c12; obtain rfl := Option.some.inj H; have p11 : 0 ≤ (x20_2 : Int) := of_decide_eq_true (by first | (with_reducible assumption) | assumption); have q11 : x20_2 < (a0.size : Int) := of_decide_eq_true (by first | (with_reducible assumption) | assumption); have hx11 := bt_at a0 x20_2; replace p11 := eq_true p11; replace q11 := eq_true q11; go_wp2; go_ret; exact ⟨by first | rfl | (simp; done) | (simp [*]; done), by repeat (first | exact Drawn0.refl _ | apply Drawn0.step)⟩
                  · rw [if_neg c12] at H
                    have c12b0 : decide ((bt a0 x20_2) < 48) = false := decide_eq_false c12; clear c12
                    by_cases c14 : (bt a0 x20_2) > 57
                    · rw [if_pos c14] at H
                      have c14b0 : decide (57 < (bt a0 x20_2)) = true := decide_eq_true c14; clear c14; obtain rfl := Option.some.inj H; have p11 : 0 ≤ (x20_2 : Int) := of_decide_eq_true (by first | (with_reducible assumption) | assumption); have q11 : x20_2 < (a0.size : Int) := of_decide_eq_true (by first | (with_reducible assumption) | assumption); have hx11 := bt_at a0 x20_2; replace p11 := eq_true p11; replace q11 := eq_true q11; have p13 : 0 ≤ (x20_2 : Int) := of_decide_eq_true (by first | (with_reducible assumption) | assumption); have q13 : x20_2 < (a0.size : Int) := of_decide_eq_true (by first | (with_reducible assumption) | assumption); have hx13 := bt_at a0 x20_2; replace p13 := eq_true p13; replace q13 := eq_true q13; go_wp2; go_ret; exact ⟨by first | rfl | (simp; done) | (simp [*]; done), by repeat (first | exact Drawn0.refl _ | apply Drawn0.step)⟩
                    · rw [if_neg c14] at H
                      have c14b0 : decide (57 < (bt a0 x20_2)) = false := decide_eq_false c14; clear c14; have H' := Aside0.mk H; clear H; have p11 : 0 ≤ (x20_2 : Int) := of_decide_eq_true (by first | (with_reducible assumption) | assumption); have q11 : x20_2 < (a0.size : Int) := of_decide_eq_true (by first | (with_reducible assumption) | assumption); have hx11 := bt_at a0 x20_2; replace p11 := eq_true p11; replace q11 := eq_true q11; have p13 : 0 ≤ (x20_2 : Int) := of_decide_eq_true (by first | (with_reducible assumption) | assumption); have q13 : x20_2 < (a0.size : Int) := of_decide_eq_true (by first | (with_reducible assumption) | assumption); have hx13 := bt_at a0 x20_2; replace p13 := eq_true p13; replace q13 := eq_true q13; have p15 : 0 ≤ (x20_2 : Int) := of_decide_eq_true (by first | (with_reducible assumption) | assumption); have q15 : x20_2 < (a0.size : Int) := of_decide_eq_true (by first | (with_reducible assumption) | assumption); have hx15 := bt_at a0 x20_2; replace p15 := eq_true p15; replace q15 := eq_true q15; go_wp2
                      go_roundg k2
                      case measure => have := HJ1.out; have := HK2.out; omega
                      case rel => exact ⟨(wrap64 ((wrap64 (10 * x3_2)) + (((bt a0 x20_2) - 48) % 256))), (wrap64 (x20_2 + 1)), (by first | rfl | (simp; done) | (simp [*]; done)), (by first | rfl | (simp; done) | (simp [*]; done)), H', ⟨by have := HJ1.out; have := HK2.out; omega⟩, by repeat (first | exact Drawn0.refl _ | apply Drawn0.step)⟩
                · rw [if_neg c10] at H
                  exact absurd H (by simp)
              · rw [if_neg c9] at H
                exact absurd H (by simp)
            · rw [if_neg c8] at H
              have c8b0 : decide (x20_2 < (a0.size : Int)) = false := decide_eq_false c8; clear c8; obtain rfl := Option.some.inj H; go_wp2; go_ret; exact ⟨by first | rfl | (simp; done) | (simp [*]; done), by repeat (first | exact Drawn0.refl _ | apply Drawn0.step)⟩
end Go.Proofs.YtigenhbmgpfffaaGreatDoor.Pa
