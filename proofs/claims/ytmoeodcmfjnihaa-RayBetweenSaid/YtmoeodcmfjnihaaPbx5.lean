-- Printed by a program of this session: the kit's printer, with contracts of this session's own among its functions.
import Derived.Test.YtmoeodcmfjnihaaPbx0
import Derived.Test.YtmoeodcmfjnihaaPbx1
import Derived.Test.YtmoeodcmfjnihaaPbx2
import Derived.Test.YtmoeodcmfjnihaaPbx3
namespace Go.Proofs.Ytmoeodcmfjnihaa.Pb
open Go.RowKit Go.Proofs.YtmoeodcmfjnihaaW.PrintWords Go.Proofs.YtmoeodcmfjnihaaW.PrintLast Go.Proofs.YtmoeodcmfjnihaaW.PrintMore
attribute [local go_sem] max2_int min2_int max_two min_two max_three min_three max_four min_four   -- for this text's walks alone
set_option linter.unusedVariables false
set_option linter.unusedSimpArgs false

attribute [local go_sem high] eqA23 eqA30
/-! ### ray_Dirs: function 41 -/
def ray_Dirs.j0 : Nat → Int → Bool → Option ((List (S23)))
  | 0, _, _ => none
  | k + 1, x3, x8 => if x8 = true then (some (([(⟨(-1), (-1)⟩ : S23), (⟨1, (-1)⟩ : S23), (⟨(-1), 1⟩ : S23), (⟨1, 1⟩ : S23)] : List (S23)))) else (if x3 = 7 then (some (([(⟨0, (-1)⟩ : S23), (⟨(-1), 0⟩ : S23), (⟨1, 0⟩ : S23), (⟨0, 1⟩ : S23)] : List (S23)))) else (if x3 = 15 then (some (([(⟨0, (-1)⟩ : S23), (⟨(-1), 0⟩ : S23), (⟨1, 0⟩ : S23), (⟨0, 1⟩ : S23)] : List (S23)))) else (some ([] : List (S23)))))
def ray_Dirs.f (k : Nat) (a0 : Int) : Option ((List (S23))) := if a0 = 2 then (some (([(⟨0, (-1)⟩ : S23)] : List (S23)))) else (if a0 = 6 then (ray_Dirs.j0 k a0 (a0 == 6)) else (ray_Dirs.j0 k a0 (a0 == 14)))
theorem ray_Dirs.mono_l : ∀ k, (∀ y0 y1, LeO (ray_Dirs.j0 k y0 y1) (ray_Dirs.j0 (k + 1) y0 y1))
  | 0 => fun _ _ r h => by simp [ray_Dirs.j0] at h
  | k + 1 => by
    have ih0 := ray_Dirs.mono_l k
    · intro y0 y1
      unfold ray_Dirs.j0
      repeat' first
      | (with_reducible exact ih0 _ _)
      | (with_reducible exact LeO.refl _)
      | (with_reducible exact LeO.none _)
      | (with_reducible refine LeO.ite ?_ ?_)
      | (with_reducible refine LeO.bind ?_ (fun _ => ?_))
      | exact ih0 _ _
      | exact LeO.none _
      | refine LeO.ite ?_ ?_
      | refine LeO.bind ?_ (fun _ => ?_)
theorem ray_Dirs.mono : ∀ a0 k, LeO (ray_Dirs.f k a0) (ray_Dirs.f (k + 1) a0) := by
  intro a0 k
  have ih0 := ray_Dirs.mono_l k
  unfold ray_Dirs.f
  repeat' first
      | (with_reducible exact ih0 _ _)
      | (with_reducible exact LeO.refl _)
      | (with_reducible exact LeO.none _)
      | (with_reducible refine LeO.ite ?_ ?_)
      | (with_reducible refine LeO.bind ?_ (fun _ => ?_))
      | exact ih0 _ _
      | exact LeO.none _
      | refine LeO.ite ?_ ?_
      | refine LeO.bind ?_ (fun _ => ?_)
set_option maxHeartbeats 8000000 in
set_option maxRecDepth 100000 in
theorem ray_Dirs.calls (k : Nat) (a0 : Int) (r : List (S23)) (w : World) (h : ray_Dirs.f k a0 = some r) :
    Calls Try.prog 41 #[.int .i64 a0] w fun e w' => ∃ v0_ : Value, e = .returned (v0_) ∧ Kd.R k23 23 w' w.heap.size (fun _ => True) v0_ r ∧ Below w.heap.size w w' := by
  have hu23 := Try.underlying23
  have HB := Aside0.mk (Below.refl w.heap.size w)
  have H : (if a0 = 2 then (some (([(⟨0, (-1)⟩ : S23)] : List (S23)))) else (if a0 = 6 then (ray_Dirs.j0 k a0 (a0 == 6)) else (ray_Dirs.j0 k a0 (a0 == 14)))) = some r := h
  clear h
  by_cases c2 : a0 = 2
  · rw [if_pos c2] at H
    have c2b0 : (a0 == 2) = true := beq_iff_eq.mpr c2
    have c2b1 : (a0 != 2) = false := bne_eq_false_iff_eq.mpr c2
    clear c2
    obtain ⟨y163, hy163⟩ : ∃ y_ : List (S23), y_ = (([(⟨0, (-1)⟩ : S23)] : List (S23))) := ⟨_, rfl⟩
    replace H : (some y163) = some r := by first | (rw [hy163]; with_reducible exact H) | (have H2_ := (Option.bind_some _ _).symm.trans H; rw [hy163]; with_reducible exact H2_) | (have H2_ := (Option.bind_some _ _).symm.trans H; with_reducible exact H2_) | with_reducible exact H | (rw [hy163]; exact H) | exact H
    have Ny163 := Aside0.mk hy163
    clear hy163
    obtain rfl := Option.some.inj H
    go_enter Try.func41, Try.ntmps41
    go_wp2_with (first | ((with_reducible refine gate_dst (N := 7) rfl ?_); refine Kd.R_lit k23 _ 23 ?hg (N := 7) ?hd (xs := ([(⟨0, (-1)⟩ : S23)] : List (S23))) (inner := [.int .i64 0, .int .i64 (-1)]) (ok := fun _ => True) (okp := fun _ => True) ?hr ?hp (fun _ hk => hk) trivial (Below.refl _ _) (Nat.le_refl _) (by simp) ?_; (case hd => rfl); (case hg => rfl); (case hr => first | (go_simp; done) | (go_simp; rfl)); (case hp => exact (Reps.c2 (show Kd.M k23 _ _ _ (⟨0, (-1)⟩ : S23) [.int .i64 0, .int .i64 (-1)] from (k23_mkM _ _ _ (⟨0, (-1)⟩ : S23) )) (Reps.none _ _))); intro v164 w3 ho4 hb hg_ hnew_; clear hg_ hnew_; (first | rw [← Ny163.out] at ho4 | (simp only [Int.reduceToNat] at ho4; rw [← Ny163.out] at ho4)); have n0_ := Aside0.mk (Kd.R_lower ho4 (below_size (by repeat (first | (with_reducible first | exact HB.out | apply below_alloc | apply pw_below_drewN | apply below_drew1) | exact HB.out)))); have n1_ := Aside0.mk (below_step (by repeat (first | (with_reducible first | exact HB.out | apply below_alloc | apply pw_below_drewN | apply below_drew1) | exact HB.out)) hb); clear HB; have HO165 := n0_; have HB := n1_; clear n0_ n1_; clear hb ho4))
    go_ret
    exact ⟨_, by first | rfl | (simp [errW_none, errW_some] <;> rfl) | (simp [*, errW_none, errW_some] <;> rfl), by (with_reducible repeat (first | apply Kd.R_alloc | apply Kd.R_drewN | apply Kd.R_drew)); exact HO165.out, by repeat (first | (with_reducible first | exact HB.out | apply below_alloc | apply pw_below_drewN | apply below_drew1) | exact HB.out)⟩
  · rw [if_neg c2] at H
    have c2b0 : (a0 == 2) = false := beq_eq_false_iff_ne.mpr c2
    have c2b1 : (a0 != 2) = true := bne_iff_ne.mpr c2
    have HC5 := Aside0.mk H
    clear H
    go_enter Try.func41, Try.ntmps41
    go_upto_if 8 with (fail)
    go_cut [8] (fun v8 wc => ∃ (kq : Nat) (x8_4 : Bool), v8 = .bool x8_4 ∧ Aside0 (ray_Dirs.j0 kq a0 x8_4 = some r) ∧ Aside0 (kq ≤ k) ∧ Aside0 (Below w.heap.size w wc))
    case first =>
      have H := HC5.out
      clear HC5
      by_cases c6 : a0 = 6
      · rw [if_pos c6] at H
        have c6b0 : (a0 == 6) = true := beq_iff_eq.mpr c6
        have c6b1 : (a0 != 6) = false := bne_eq_false_iff_eq.mpr c6
        clear c6
        (first | rw [c6b0] | (simp only [i64_w, i32_w]; rw [c6b0]) | skip)
        have H' := Aside0.mk H
        clear H
        go_wp2
        go_meet
        case rel => exact ⟨_, ((a0 == 6)), (by first | rfl | (simp; done) | (simp [*]; done)), H', ⟨by first | omega | exact Nat.le_refl _⟩, ⟨by repeat (first | (with_reducible first | exact HB.out | apply below_alloc | apply pw_below_drewN | apply below_drew1) | exact HB.out)⟩⟩
      · rw [if_neg c6] at H
        have c6b0 : (a0 == 6) = false := beq_eq_false_iff_ne.mpr c6
        have c6b1 : (a0 != 6) = true := bne_iff_ne.mpr c6
        (first | rw [c6b0] | (simp only [i64_w, i32_w]; rw [c6b0]) | skip)
        have H' := Aside0.mk H
        clear H
        go_wp2
        go_meet
        case rel => exact ⟨_, ((a0 == 14)), (by first | rfl | (simp; done) | (simp [*]; done)), H', ⟨by first | omega | exact Nat.le_refl _⟩, ⟨by repeat (first | (with_reducible first | exact HB.out | apply below_alloc | apply pw_below_drewN | apply below_drew1) | exact HB.out)⟩⟩
    case rest =>
      clear HC5
      try clear c2
      try clear c2b0
      try clear c2b1
      try clear p2
      try clear c4
      try clear c6
      try clear c6b0
      try clear c6b1
      obtain ⟨kq, x8_4, rfl, HA, HJ4, HB⟩ := hcut
      cases kq with
      | zero => exact absurd HA.out (by simp [ray_Dirs.j0])
      | succ kj4 =>
        have H := HA.out
        clear HA
        simp only [ray_Dirs.j0] at H
        by_cases c7 : x8_4 = true
        · subst c7
          have H1 : (some (([(⟨(-1), (-1)⟩ : S23), (⟨1, (-1)⟩ : S23), (⟨(-1), 1⟩ : S23), (⟨1, 1⟩ : S23)] : List (S23)))) = some r := by rw [if_pos rfl] at H; exact H
          clear H
          have H := H1
          clear H1
          obtain ⟨y166, hy166⟩ : ∃ y_ : List (S23), y_ = (([(⟨(-1), (-1)⟩ : S23), (⟨1, (-1)⟩ : S23), (⟨(-1), 1⟩ : S23), (⟨1, 1⟩ : S23)] : List (S23))) := ⟨_, rfl⟩
          replace H : (some y166) = some r := by first | (rw [hy166]; with_reducible exact H) | (have H2_ := (Option.bind_some _ _).symm.trans H; rw [hy166]; with_reducible exact H2_) | (have H2_ := (Option.bind_some _ _).symm.trans H; with_reducible exact H2_) | with_reducible exact H | (rw [hy166]; exact H) | exact H
          have Ny166 := Aside0.mk hy166
          clear hy166
          obtain rfl := Option.some.inj H
          go_wp2_with (first | ((with_reducible refine gate_dst (N := 15) rfl ?_); refine Kd.R_lit k23 _ 23 ?hg (N := 15) ?hd (xs := ([(⟨(-1), (-1)⟩ : S23), (⟨1, (-1)⟩ : S23), (⟨(-1), 1⟩ : S23), (⟨1, 1⟩ : S23)] : List (S23))) (inner := [.int .i64 (-1), .int .i64 (-1), .int .i64 1, .int .i64 (-1), .int .i64 (-1), .int .i64 1, .int .i64 1, .int .i64 1]) (ok := fun _ => True) (okp := fun _ => True) ?hr ?hp (fun _ hk => hk) trivial (Below.refl _ _) (Nat.le_refl _) (by simp) ?_; (case hd => rfl); (case hg => rfl); (case hr => first | (go_simp; done) | (go_simp; rfl)); (case hp => exact (Reps.c2 (show Kd.M k23 _ _ _ (⟨(-1), (-1)⟩ : S23) [.int .i64 (-1), .int .i64 (-1)] from (k23_mkM _ _ _ (⟨(-1), (-1)⟩ : S23) )) (Reps.c2 (show Kd.M k23 _ _ _ (⟨1, (-1)⟩ : S23) [.int .i64 1, .int .i64 (-1)] from (k23_mkM _ _ _ (⟨1, (-1)⟩ : S23) )) (Reps.c2 (show Kd.M k23 _ _ _ (⟨(-1), 1⟩ : S23) [.int .i64 (-1), .int .i64 1] from (k23_mkM _ _ _ (⟨(-1), 1⟩ : S23) )) (Reps.c2 (show Kd.M k23 _ _ _ (⟨1, 1⟩ : S23) [.int .i64 1, .int .i64 1] from (k23_mkM _ _ _ (⟨1, 1⟩ : S23) )) (Reps.none _ _)))))); intro v167 w8 ho9 hb hg_ hnew_; clear hg_ hnew_; (first | rw [← Ny166.out] at ho9 | (simp only [Int.reduceToNat] at ho9; rw [← Ny166.out] at ho9)); have n0_ := Aside0.mk (Kd.R_lower ho9 (below_size (by repeat (first | (with_reducible first | exact HB.out | apply below_alloc | apply pw_below_drewN | apply below_drew1) | exact HB.out)))); have n1_ := Aside0.mk (below_step (by repeat (first | (with_reducible first | exact HB.out | apply below_alloc | apply pw_below_drewN | apply below_drew1) | exact HB.out)) hb); clear HB; have HO168 := n0_; have HB := n1_; clear n0_ n1_; clear hb ho9))
          go_ret
          exact ⟨_, by first | rfl | (simp [errW_none, errW_some] <;> rfl) | (simp [*, errW_none, errW_some] <;> rfl), by (with_reducible repeat (first | apply Kd.R_alloc | apply Kd.R_drewN | apply Kd.R_drew)); exact HO168.out, by repeat (first | (with_reducible first | exact HB.out | apply below_alloc | apply pw_below_drewN | apply below_drew1) | exact HB.out)⟩
        · replace c7 := Bool.eq_false_iff.mpr c7
          subst c7
          have H1 : (if a0 = 7 then (some (([(⟨0, (-1)⟩ : S23), (⟨(-1), 0⟩ : S23), (⟨1, 0⟩ : S23), (⟨0, 1⟩ : S23)] : List (S23)))) else (if a0 = 15 then (some (([(⟨0, (-1)⟩ : S23), (⟨(-1), 0⟩ : S23), (⟨1, 0⟩ : S23), (⟨0, 1⟩ : S23)] : List (S23)))) else (some ([] : List (S23))))) = some r := by rw [if_neg (show ¬ (false = true) by decide)] at H; exact H
          clear H
          have H := H1
          clear H1
          by_cases c10 : a0 = 7
          · rw [if_pos c10] at H
            have c10b0 : (a0 == 7) = true := beq_iff_eq.mpr c10
            have c10b1 : (a0 != 7) = false := bne_eq_false_iff_eq.mpr c10
            clear c10
            obtain ⟨y169, hy169⟩ : ∃ y_ : List (S23), y_ = (([(⟨0, (-1)⟩ : S23), (⟨(-1), 0⟩ : S23), (⟨1, 0⟩ : S23), (⟨0, 1⟩ : S23)] : List (S23))) := ⟨_, rfl⟩
            replace H : (some y169) = some r := by first | (rw [hy169]; with_reducible exact H) | (have H2_ := (Option.bind_some _ _).symm.trans H; rw [hy169]; with_reducible exact H2_) | (have H2_ := (Option.bind_some _ _).symm.trans H; with_reducible exact H2_) | with_reducible exact H | (rw [hy169]; exact H) | exact H
            have Ny169 := Aside0.mk hy169
            clear hy169
            obtain rfl := Option.some.inj H
            go_wp2_with (first | ((with_reducible refine gate_dst (N := 23) rfl ?_); refine Kd.R_lit k23 _ 23 ?hg (N := 23) ?hd (xs := ([(⟨0, (-1)⟩ : S23), (⟨(-1), 0⟩ : S23), (⟨1, 0⟩ : S23), (⟨0, 1⟩ : S23)] : List (S23))) (inner := [.int .i64 0, .int .i64 (-1), .int .i64 (-1), .int .i64 0, .int .i64 1, .int .i64 0, .int .i64 0, .int .i64 1]) (ok := fun _ => True) (okp := fun _ => True) ?hr ?hp (fun _ hk => hk) trivial (Below.refl _ _) (Nat.le_refl _) (by simp) ?_; (case hd => rfl); (case hg => rfl); (case hr => first | (go_simp; done) | (go_simp; rfl)); (case hp => exact (Reps.c2 (show Kd.M k23 _ _ _ (⟨0, (-1)⟩ : S23) [.int .i64 0, .int .i64 (-1)] from (k23_mkM _ _ _ (⟨0, (-1)⟩ : S23) )) (Reps.c2 (show Kd.M k23 _ _ _ (⟨(-1), 0⟩ : S23) [.int .i64 (-1), .int .i64 0] from (k23_mkM _ _ _ (⟨(-1), 0⟩ : S23) )) (Reps.c2 (show Kd.M k23 _ _ _ (⟨1, 0⟩ : S23) [.int .i64 1, .int .i64 0] from (k23_mkM _ _ _ (⟨1, 0⟩ : S23) )) (Reps.c2 (show Kd.M k23 _ _ _ (⟨0, 1⟩ : S23) [.int .i64 0, .int .i64 1] from (k23_mkM _ _ _ (⟨0, 1⟩ : S23) )) (Reps.none _ _)))))); intro v170 w11 ho12 hb hg_ hnew_; clear hg_ hnew_; (first | rw [← Ny169.out] at ho12 | (simp only [Int.reduceToNat] at ho12; rw [← Ny169.out] at ho12)); have n0_ := Aside0.mk (Kd.R_lower ho12 (below_size (by repeat (first | (with_reducible first | exact HB.out | apply below_alloc | apply pw_below_drewN | apply below_drew1) | exact HB.out)))); have n1_ := Aside0.mk (below_step (by repeat (first | (with_reducible first | exact HB.out | apply below_alloc | apply pw_below_drewN | apply below_drew1) | exact HB.out)) hb); clear HB; have HO171 := n0_; have HB := n1_; clear n0_ n1_; clear hb ho12))
            go_ret
            exact ⟨_, by first | rfl | (simp [errW_none, errW_some] <;> rfl) | (simp [*, errW_none, errW_some] <;> rfl), by (with_reducible repeat (first | apply Kd.R_alloc | apply Kd.R_drewN | apply Kd.R_drew)); exact HO171.out, by repeat (first | (with_reducible first | exact HB.out | apply below_alloc | apply pw_below_drewN | apply below_drew1) | exact HB.out)⟩
          · rw [if_neg c10] at H
            have c10b0 : (a0 == 7) = false := beq_eq_false_iff_ne.mpr c10
            have c10b1 : (a0 != 7) = true := bne_iff_ne.mpr c10
            by_cases c13 : a0 = 15
            · rw [if_pos c13] at H
              have c13b0 : (a0 == 15) = true := beq_iff_eq.mpr c13
              have c13b1 : (a0 != 15) = false := bne_eq_false_iff_eq.mpr c13
              clear c13
              obtain ⟨y172, hy172⟩ : ∃ y_ : List (S23), y_ = (([(⟨0, (-1)⟩ : S23), (⟨(-1), 0⟩ : S23), (⟨1, 0⟩ : S23), (⟨0, 1⟩ : S23)] : List (S23))) := ⟨_, rfl⟩
              replace H : (some y172) = some r := by first | (rw [hy172]; with_reducible exact H) | (have H2_ := (Option.bind_some _ _).symm.trans H; rw [hy172]; with_reducible exact H2_) | (have H2_ := (Option.bind_some _ _).symm.trans H; with_reducible exact H2_) | with_reducible exact H | (rw [hy172]; exact H) | exact H
              have Ny172 := Aside0.mk hy172
              clear hy172
              obtain rfl := Option.some.inj H
              go_wp2_with (first | ((with_reducible refine gate_dst (N := 23) rfl ?_); refine Kd.R_lit k23 _ 23 ?hg (N := 23) ?hd (xs := ([(⟨0, (-1)⟩ : S23), (⟨(-1), 0⟩ : S23), (⟨1, 0⟩ : S23), (⟨0, 1⟩ : S23)] : List (S23))) (inner := [.int .i64 0, .int .i64 (-1), .int .i64 (-1), .int .i64 0, .int .i64 1, .int .i64 0, .int .i64 0, .int .i64 1]) (ok := fun _ => True) (okp := fun _ => True) ?hr ?hp (fun _ hk => hk) trivial (Below.refl _ _) (Nat.le_refl _) (by simp) ?_; (case hd => rfl); (case hg => rfl); (case hr => first | (go_simp; done) | (go_simp; rfl)); (case hp => exact (Reps.c2 (show Kd.M k23 _ _ _ (⟨0, (-1)⟩ : S23) [.int .i64 0, .int .i64 (-1)] from (k23_mkM _ _ _ (⟨0, (-1)⟩ : S23) )) (Reps.c2 (show Kd.M k23 _ _ _ (⟨(-1), 0⟩ : S23) [.int .i64 (-1), .int .i64 0] from (k23_mkM _ _ _ (⟨(-1), 0⟩ : S23) )) (Reps.c2 (show Kd.M k23 _ _ _ (⟨1, 0⟩ : S23) [.int .i64 1, .int .i64 0] from (k23_mkM _ _ _ (⟨1, 0⟩ : S23) )) (Reps.c2 (show Kd.M k23 _ _ _ (⟨0, 1⟩ : S23) [.int .i64 0, .int .i64 1] from (k23_mkM _ _ _ (⟨0, 1⟩ : S23) )) (Reps.none _ _)))))); intro v173 w14 ho15 hb hg_ hnew_; clear hg_ hnew_; (first | rw [← Ny172.out] at ho15 | (simp only [Int.reduceToNat] at ho15; rw [← Ny172.out] at ho15)); have n0_ := Aside0.mk (Kd.R_lower ho15 (below_size (by repeat (first | (with_reducible first | exact HB.out | apply below_alloc | apply pw_below_drewN | apply below_drew1) | exact HB.out)))); have n1_ := Aside0.mk (below_step (by repeat (first | (with_reducible first | exact HB.out | apply below_alloc | apply pw_below_drewN | apply below_drew1) | exact HB.out)) hb); clear HB; have HO174 := n0_; have HB := n1_; clear n0_ n1_; clear hb ho15))
              go_ret
              exact ⟨_, by first | rfl | (simp [errW_none, errW_some] <;> rfl) | (simp [*, errW_none, errW_some] <;> rfl), by (with_reducible repeat (first | apply Kd.R_alloc | apply Kd.R_drewN | apply Kd.R_drew)); exact HO174.out, by repeat (first | (with_reducible first | exact HB.out | apply below_alloc | apply pw_below_drewN | apply below_drew1) | exact HB.out)⟩
            · rw [if_neg c13] at H
              have c13b0 : (a0 == 15) = false := beq_eq_false_iff_ne.mpr c13
              have c13b1 : (a0 != 15) = true := bne_iff_ne.mpr c13
              obtain rfl := Option.some.inj H
              go_wp2
              go_ret
              exact ⟨_, by first | rfl | (simp [errW_none, errW_some] <;> rfl) | (simp [*, errW_none, errW_some] <;> rfl), by first | exact Kd.R_nil _ _ _ _ _ | exact Kd.N_nil _ _ _ _ _ | exact Kd.V_nil _ _ _ _ _ | exact Kd.Q_nil _ _ _ _ _ | exact Kd.S_nil _ _ _ _ _, by repeat (first | (with_reducible first | exact HB.out | apply below_alloc | apply pw_below_drewN | apply below_drew1) | exact HB.out)⟩

/-! ### set_Set_And: function 20 -/
def set_Set_And.f (a0_0 : Int) (a0_1 : Int) (a1_0 : Int) (a1_1 : Int) : Option (Int × Int) := some (Go.bits .and .u64 a0_0 a1_0, Go.bits .and .u64 a0_1 a1_1)
set_option maxHeartbeats 8000000 in
set_option maxRecDepth 100000 in
theorem set_Set_And.calls (a0_0 : Int) (a0_1 : Int) (a1_0 : Int) (a1_1 : Int) (r1 : Int) (r2 : Int) (w : World) (h : set_Set_And.f a0_0 a0_1 a1_0 a1_1 = some (r1, r2)) :
    Calls Try.prog 20 #[.agg #[.int .u64 a0_0, .int .u64 a0_1], .agg #[.int .u64 a1_0, .int .u64 a1_1]] w fun e w' => e = .returned (.agg #[.int .u64 r1, .int .u64 r2]) ∧ Below w.heap.size w w' := by
  have hu30 := Try.underlying30
  have HB := Aside0.mk (Below.refl w.heap.size w)
  have H : (some (Go.bits .and .u64 a0_0 a1_0, Go.bits .and .u64 a0_1 a1_1)) = some (r1, r2) := h
  clear h
  simp only [Option.some.injEq, Prod.mk.injEq] at H
  obtain ⟨rfl, rfl⟩ := H
  go_enter Try.func20, Try.ntmps20
  go_wp2_with (first | ((with_reducible refine gate_dst (N := 2) rfl ?_); refine box_event ?hg (N := 2) ?hd (cs := #[.int .u64 a0_0, .int .u64 a0_1]) (t := 30) ?hr ?_; (case hd => rfl); (case hg => rfl); (case hr => first | (go_simp; done) | (go_simp; rfl)); intro gb175 hg w3 hbox hb; have n0_ := Aside0.mk (below_step (by repeat (first | (with_reducible first | exact HB.out | apply below_alloc | apply pw_below_drewN | apply below_drew1) | exact HB.out)) hb); have n1_ := Aside0.mk (hbox); have n2_ := Aside0.mk ((by rw [hg]; exact (below_size (by repeat (first | (with_reducible first | exact HB.out | apply below_alloc | apply pw_below_drewN | apply below_drew1) | exact HB.out))) : w.heap.size ≤ gb175)); have n3_ := Aside0.mk ((by rw [hg]; exact (below_size (by repeat (first | (with_reducible first | exact HB.out | apply below_alloc | apply pw_below_drewN | apply below_drew1) | exact HB.out))) : w.heap.size ≤ gb175)); clear HB; have HB := n0_; have BK175 := n1_; have GW175 := n2_; have GE175 := n3_; clear n0_ n1_ n2_ n3_; clear hb hbox hg) | ((with_reducible refine gate_dst (N := 3) rfl ?_); refine box_event ?hg (N := 3) ?hd (cs := #[.int .u64 a1_0, .int .u64 a1_1]) (t := 30) ?hr ?_; (case hd => rfl); (case hg => rfl); (case hr => first | (go_simp; done) | (go_simp; rfl)); intro gb176 hg w4 hbox hb; have n0_ := Aside0.mk (blk_below (g := gb175) (o := .cells #[.int .u64 a0_0, .int .u64 a0_1] 30 (0, 0)) (by (with_reducible repeat (first | refine blk_drewN ?_ _ | refine blk_drew ?_ | refine blk_alloc ?_ _)); exact BK175.out) hb); have n1_ := Aside0.mk (below_step (by repeat (first | (with_reducible first | exact HB.out | apply below_alloc | apply pw_below_drewN | apply below_drew1 | refine below_set ?_ GE175.out) | exact HB.out)) hb); have n2_ := Aside0.mk (hbox); have n3_ := Aside0.mk ((by rw [hg]; exact (below_size (by repeat (first | (with_reducible first | exact HB.out | apply below_alloc | apply pw_below_drewN | apply below_drew1 | refine below_set ?_ GE175.out) | exact HB.out))) : w.heap.size ≤ gb176)); have n4_ := Aside0.mk ((by rw [hg]; exact (below_size (by repeat (first | (with_reducible first | exact HB.out | apply below_alloc | apply pw_below_drewN | apply below_drew1 | refine below_set ?_ GE175.out) | exact HB.out))) : w.heap.size ≤ gb176)); have n5_ := Aside0.mk ((by rw [hg]; exact Nat.ne_of_lt (blk_lt (g := gb175) (o := .cells #[.int .u64 a0_0, .int .u64 a0_1] 30 (0, 0)) (by (with_reducible repeat (first | refine blk_drewN ?_ _ | refine blk_drew ?_ | refine blk_alloc ?_ _)); exact BK175.out)) : gb175 ≠ gb176)); have n6_ := Aside0.mk ((by rw [hg]; exact Nat.ne_of_gt (blk_lt (g := gb175) (o := .cells #[.int .u64 a0_0, .int .u64 a0_1] 30 (0, 0)) (by (with_reducible repeat (first | refine blk_drewN ?_ _ | refine blk_drew ?_ | refine blk_alloc ?_ _)); exact BK175.out)) : gb176 ≠ gb175)); clear BK175; clear HB; have BK175 := n0_; have HB := n1_; have BK176 := n2_; have GW176 := n3_; have GE176 := n4_; have NB175_176 := n5_; have NB176_175 := n6_; clear n0_ n1_ n2_ n3_ n4_ n5_ n6_; clear hb hbox hg) | ((with_reducible refine gate_dst (N := 4) rfl ?_); refine box_event ?hg (N := 4) ?hd (cs := #[.int .u64 0, .int .u64 0]) (t := 30) ?hr ?_; (case hd => rfl); (case hg => rfl); (case hr => first | (go_simp; done) | (go_simp; rfl)); intro gb177 hg w5 hbox hb; have n0_ := Aside0.mk (blk_below (g := gb175) (o := .cells #[.int .u64 a0_0, .int .u64 a0_1] 30 (0, 0)) (by (with_reducible repeat (first | refine blk_drewN ?_ _ | refine blk_drew ?_ | refine blk_alloc ?_ _)); exact BK175.out) hb); have n1_ := Aside0.mk (blk_below (g := gb176) (o := .cells #[.int .u64 a1_0, .int .u64 a1_1] 30 (0, 0)) (by (with_reducible repeat (first | refine blk_drewN ?_ _ | refine blk_drew ?_ | refine blk_alloc ?_ _)); exact BK176.out) hb); have n2_ := Aside0.mk (below_step (by repeat (first | (with_reducible first | exact HB.out | apply below_alloc | apply pw_below_drewN | apply below_drew1 | refine below_set ?_ GE175.out | refine below_set ?_ GE176.out) | exact HB.out)) hb); have n3_ := Aside0.mk (hbox); have n4_ := Aside0.mk ((by rw [hg]; exact (below_size (by repeat (first | (with_reducible first | exact HB.out | apply below_alloc | apply pw_below_drewN | apply below_drew1 | refine below_set ?_ GE175.out | refine below_set ?_ GE176.out) | exact HB.out))) : w.heap.size ≤ gb177)); have n5_ := Aside0.mk ((by rw [hg]; exact (below_size (by repeat (first | (with_reducible first | exact HB.out | apply below_alloc | apply pw_below_drewN | apply below_drew1 | refine below_set ?_ GE175.out | refine below_set ?_ GE176.out) | exact HB.out))) : w.heap.size ≤ gb177)); have n6_ := Aside0.mk ((by rw [hg]; exact Nat.ne_of_lt (blk_lt (g := gb175) (o := .cells #[.int .u64 a0_0, .int .u64 a0_1] 30 (0, 0)) (by (with_reducible repeat (first | refine blk_drewN ?_ _ | refine blk_drew ?_ | refine blk_alloc ?_ _)); exact BK175.out)) : gb175 ≠ gb177)); have n7_ := Aside0.mk ((by rw [hg]; exact Nat.ne_of_gt (blk_lt (g := gb175) (o := .cells #[.int .u64 a0_0, .int .u64 a0_1] 30 (0, 0)) (by (with_reducible repeat (first | refine blk_drewN ?_ _ | refine blk_drew ?_ | refine blk_alloc ?_ _)); exact BK175.out)) : gb177 ≠ gb175)); have n8_ := Aside0.mk ((by rw [hg]; exact Nat.ne_of_lt (blk_lt (g := gb176) (o := .cells #[.int .u64 a1_0, .int .u64 a1_1] 30 (0, 0)) (by (with_reducible repeat (first | refine blk_drewN ?_ _ | refine blk_drew ?_ | refine blk_alloc ?_ _)); exact BK176.out)) : gb176 ≠ gb177)); have n9_ := Aside0.mk ((by rw [hg]; exact Nat.ne_of_gt (blk_lt (g := gb176) (o := .cells #[.int .u64 a1_0, .int .u64 a1_1] 30 (0, 0)) (by (with_reducible repeat (first | refine blk_drewN ?_ _ | refine blk_drew ?_ | refine blk_alloc ?_ _)); exact BK176.out)) : gb177 ≠ gb176)); clear BK175; clear BK176; clear HB; have BK175 := n0_; have BK176 := n1_; have HB := n2_; have BK177 := n3_; have GW177 := n4_; have GE177 := n5_; have NB175_177 := n6_; have NB177_175 := n7_; have NB176_177 := n8_; have NB177_176 := n9_; clear n0_ n1_ n2_ n3_ n4_ n5_ n6_ n7_ n8_ n9_; clear hb hbox hg; have hnb6 := NB175_176.out; have hnc6 := NB176_175.out; have hnb7 := NB175_177.out; have hnc7 := NB177_175.out; have hcz8_0 : w5.cell? ⟨gb175, 0, none⟩ = some (.int .u64 a0_0) := (blk_cell BK175.out 0).trans rfl; have hcz8_1 : w5.cell? ⟨gb175, 1, none⟩ = some (.int .u64 a0_1) := (blk_cell BK175.out 1).trans rfl; have hfz8_0 := blk_frozen BK175.out 0; have hfz8_1 := blk_frozen BK175.out 1; have hnb9 := NB176_177.out; have hnc9 := NB177_176.out; have hcz10_0 : w5.cell? ⟨gb176, 0, none⟩ = some (.int .u64 a1_0) := (blk_cell BK176.out 0).trans rfl; have hcz10_1 : w5.cell? ⟨gb176, 1, none⟩ = some (.int .u64 a1_1) := (blk_cell BK176.out 1).trans rfl; have hfz10_0 := blk_frozen BK176.out 0; have hfz10_1 := blk_frozen BK176.out 1; have hcz11_0 : w5.cell? ⟨gb177, 0, none⟩ = some (.int .u64 0) := (blk_cell BK177.out 0).trans rfl; have hcz11_1 : w5.cell? ⟨gb177, 1, none⟩ = some (.int .u64 0) := (blk_cell BK177.out 1).trans rfl; have hfz11_0 := blk_frozen BK177.out 0; have hfz11_1 := blk_frozen BK177.out 1))
  refine bodyPost_ret (results_cell_row rfl _ _ gb177 30 #[.int .u64 (Go.bits .and .u64 a0_0 a1_0), .int .u64 (Go.bits .and .u64 a0_1 a1_1)] (0, 0) _ rfl (by (with_reducible repeat (first | refine blk_drewN ?_ _ | refine blk_drew ?_ | refine blk_alloc ?_ _)); refine blk_put (cs := #[.int .u64 (Go.bits .and .u64 a0_0 a1_0), .int .u64 0]) ?_ 1 _ rfl; (with_reducible repeat (first | refine blk_drewN ?_ _ | refine blk_drew ?_ | refine blk_alloc ?_ _)); refine blk_put (cs := #[.int .u64 0, .int .u64 0]) ?_ 0 _ rfl; (with_reducible repeat (first | refine blk_drewN ?_ _ | refine blk_drew ?_ | refine blk_alloc ?_ _)); exact BK177.out) Try.underlying30 rfl (by kernel_rfl)) rfl ?_
  exact ⟨by first | rfl | (simp [errW_none, errW_some] <;> rfl) | (simp [*, errW_none, errW_some] <;> rfl) | (simp [*, errW_none, errW_some]; generalize ByteArray.toList _ = q_; cases q_ <;> rfl), by repeat (first | (with_reducible first | exact HB.out | apply below_alloc | apply pw_below_drewN | apply below_drew1 | refine below_set ?_ GE175.out | refine below_set ?_ GE176.out | refine below_set ?_ GE177.out) | exact HB.out)⟩

/-! ### set_Set_Empty: function 21 -/
def set_Set_Empty.f (a0_0 : Int) (a0_1 : Int) : Option (Bool) := some (a0_0 == 0 && (a0_1 == 0))
set_option maxHeartbeats 8000000 in
set_option maxRecDepth 100000 in
theorem set_Set_Empty.calls (a0_0 : Int) (a0_1 : Int) (r : Bool) (w : World) (h : set_Set_Empty.f a0_0 a0_1 = some r) :
    Calls Try.prog 21 #[.agg #[.int .u64 a0_0, .int .u64 a0_1]] w fun e w' => e = .returned (.bool r) ∧ Below w.heap.size w w' := by
  have hu30 := Try.underlying30
  have HB := Aside0.mk (Below.refl w.heap.size w)
  have H : (some (a0_0 == 0 && (a0_1 == 0))) = some r := h
  clear h
  obtain rfl := Option.some.inj H
  go_enter Try.func21, Try.ntmps21
  go_wp2_with (first | ((with_reducible refine gate_dst (N := 1) rfl ?_); refine box_event ?hg (N := 1) ?hd (cs := #[.int .u64 a0_0, .int .u64 a0_1]) (t := 30) ?hr ?_; (case hd => rfl); (case hg => rfl); (case hr => first | (go_simp; done) | (go_simp; rfl)); intro gb178 hg w2 hbox hb; have n0_ := Aside0.mk (below_step (by repeat (first | (with_reducible first | exact HB.out | apply below_alloc | apply pw_below_drewN | apply below_drew1) | exact HB.out)) hb); have n1_ := Aside0.mk (hbox); have n2_ := Aside0.mk ((by rw [hg]; exact (below_size (by repeat (first | (with_reducible first | exact HB.out | apply below_alloc | apply pw_below_drewN | apply below_drew1) | exact HB.out))) : w.heap.size ≤ gb178)); have n3_ := Aside0.mk ((by rw [hg]; exact (below_size (by repeat (first | (with_reducible first | exact HB.out | apply below_alloc | apply pw_below_drewN | apply below_drew1) | exact HB.out))) : w.heap.size ≤ gb178)); clear HB; have HB := n0_; have BK178 := n1_; have GW178 := n2_; have GE178 := n3_; clear n0_ n1_ n2_ n3_; clear hb hbox hg; have hcz3_0 : w2.cell? ⟨gb178, 0, none⟩ = some (.int .u64 a0_0) := (blk_cell BK178.out 0).trans rfl; have hcz3_1 : w2.cell? ⟨gb178, 1, none⟩ = some (.int .u64 a0_1) := (blk_cell BK178.out 1).trans rfl; have hfz3_0 := blk_frozen BK178.out 0; have hfz3_1 := blk_frozen BK178.out 1))
  go_ret
  exact ⟨by first | rfl | (simp [errW_none, errW_some] <;> rfl) | (simp [*, errW_none, errW_some] <;> rfl) | (simp [*, errW_none, errW_some]; generalize ByteArray.toList _ = q_; cases q_ <;> rfl), by repeat (first | (with_reducible first | exact HB.out | apply below_alloc | apply pw_below_drewN | apply below_drew1 | refine below_set ?_ GE178.out) | exact HB.out)⟩

/-! ### set_Set_Has: function 15 -/
def set_Set_Has.f (k : Nat) (a0_0 : Int) (a0_1 : Int) (a1 : Int) : Option (Bool) := (set_bit.f k a1).bind fun bt180 => ((set_Set_And.f a0_0 a0_1 bt180.1 bt180.2).bind fun bt182 => ((set_Set_Empty.f bt182.1 bt182.2).bind fun t184 => (some (!t184))))
theorem set_Set_Has.mono : ∀ a0 a1 a2 k, LeO (set_Set_Has.f k a0 a1 a2) (set_Set_Has.f (k + 1) a0 a1 a2) := by
  intro a0 a1 a2 k
  unfold set_Set_Has.f
  repeat' first
      | (with_reducible exact set_bit.mono _ _)
      | (with_reducible exact LeO.refl _)
      | (with_reducible exact LeO.none _)
      | (with_reducible refine LeO.ite ?_ ?_)
      | (with_reducible refine LeO.bind ?_ (fun _ => ?_))
      | exact set_bit.mono _ _
      | exact LeO.none _
      | refine LeO.ite ?_ ?_
      | refine LeO.bind ?_ (fun _ => ?_)
set_option maxHeartbeats 8000000 in
set_option maxRecDepth 100000 in
theorem set_Set_Has.calls (k : Nat) (a0_0 : Int) (a0_1 : Int) (a1 : Int) (r : Bool) (w : World) (h : set_Set_Has.f k a0_0 a0_1 a1 = some r) :
    Calls Try.prog 15 #[.agg #[.int .u64 a0_0, .int .u64 a0_1], .int .i64 a1] w fun e w' => e = .returned (.bool r) ∧ Below w.heap.size w w' := by
  have hu30 := Try.underlying30
  have HB := Aside0.mk (Below.refl w.heap.size w)
  have H : ((set_bit.f k a1).bind fun bt180 => ((set_Set_And.f a0_0 a0_1 bt180.1 bt180.2).bind fun bt182 => ((set_Set_Empty.f bt182.1 bt182.2).bind fun t184 => (some (!t184))))) = some r := h
  clear h
  replace H := Option.bind_eq_some_iff.mp H
  obtain ⟨⟨t180, t181⟩, A30, H⟩ := H
  replace H : ((set_Set_And.f a0_0 a0_1 t180 t181).bind fun bt182 => ((set_Set_Empty.f bt182.1 bt182.2).bind fun t184 => (some (!t184)))) = some r := H
  have A3 := Aside0.mk A30
  clear A30
  replace H := Option.bind_eq_some_iff.mp H
  obtain ⟨⟨t182, t183⟩, A40, H⟩ := H
  replace H : ((set_Set_Empty.f t182 t183).bind fun t184 => (some (!t184))) = some r := H
  have A4 := Aside0.mk A40
  clear A40
  replace H := Option.bind_eq_some_iff.mp H
  obtain ⟨t184, A50, H⟩ := H
  replace H : (some (!t184)) = some r := H
  have A5 := Aside0.mk A50
  clear A50
  obtain rfl := Option.some.inj H
  go_enter Try.func15, Try.ntmps15
  try go_wp2_with (first | ((with_reducible refine gate_dst (N := 2) rfl ?_); refine box_event ?hg (N := 2) ?hd (cs := #[.int .u64 a0_0, .int .u64 a0_1]) (t := 30) ?hr ?_; (case hd => rfl); (case hg => rfl); (case hr => first | (go_simp; done) | (go_simp; rfl)); intro gb179 hg w6 hbox hb; have n0_ := Aside0.mk (below_step (by repeat (first | (with_reducible first | exact HB.out | apply below_alloc | apply pw_below_drewN | apply below_drew1) | exact HB.out)) hb); have n1_ := Aside0.mk (hbox); have n2_ := Aside0.mk ((by rw [hg]; exact (below_size (by repeat (first | (with_reducible first | exact HB.out | apply below_alloc | apply pw_below_drewN | apply below_drew1) | exact HB.out))) : w.heap.size ≤ gb179)); have n3_ := Aside0.mk ((by rw [hg]; exact (below_size (by repeat (first | (with_reducible first | exact HB.out | apply below_alloc | apply pw_below_drewN | apply below_drew1) | exact HB.out))) : w.heap.size ≤ gb179)); clear HB; have HB := n0_; have BK179 := n1_; have GW179 := n2_; have GE179 := n3_; clear n0_ n1_ n2_ n3_; clear hb hbox hg))
  have n0_ := Aside0.mk (blk_drew BK179.out)
  have n1_ := Aside0.mk (below_drew1 HB.out)
  clear BK179
  clear HB
  have BK179 := n0_
  have HB := n1_
  clear n0_ n1_
  refine start_ (n := 7) (S := fun w' => w'.cell? ⟨gb179, 0, none⟩ = some (.int .u64 a0_0) ∧ w'.cell? ⟨gb179, 1, none⟩ = some (.int .u64 a0_1)) (ds := []) #[false, false, false, false, false, false, false] (by kernel_rfl) rfl rfl ⟨(blk_cell BK179.out 0).trans rfl, (blk_cell BK179.out 1).trans rfl⟩ (fun hHeld => ?_)
  generalize w6.drew = w7 at BK179 HB hHeld ⊢
  refine pure_ (i := 1) (N := some 6) (v := ?_) (a' := ?_) #[false, true, false, false, false, false, false] rfl rfl (by kernel_rfl) (fun _ _ _ h => h) (Or.inl ⟨by rfl, ?_⟩) ?_ ?_
  rotate_left
  · intro w'
    go_simp
    with_reducible rfl
  rotate_left
  · simp only [Act.put, List.setIfInBounds_toArray, List.set_cons_zero, List.set_cons_succ, i64_w, i32_w]
    rfl
  refine take_ (i := 0) (N := some 5) (v := ?_) (a' := ?_) #[true, true, false, false, false, false, false] rfl rfl (by kernel_rfl) (fun _ _ _ h => h) (Or.inl ⟨by rfl, ?_⟩) hHeld ?_ ?_
  rotate_left
  · rintro w' ⟨s0, s1⟩
    go_simp
    with_reducible rfl
  rotate_left
  · simp only [Act.put, List.setIfInBounds_toArray, List.set_cons_zero, List.set_cons_succ, i64_w, i32_w]
    rfl
  refine one_ (i := 2) (N := some 7) #[true, true, true, false, false, false, false] rfl rfl (by kernel_rfl) (by decide) (fun K hK => ?_)
  refine goes_ Try.func35 (by kernel_rfl) rfl #[.int .i64 a1] (by rfl) rfl rfl (by (try simp only [List.map_toArray, List.map_cons, List.map_nil]); first | done | rfl | (simp only [List.length_drop, List.length_take]; rfl)) ?_
  with_reducible refine (set_bit.calls k a1 t180 t181 _ A3.out).mono ?_
  rintro e w8 ⟨rfl, hb⟩
  refine ⟨_, rfl, ?_⟩
  have n0_ := Aside0.mk (blk_below (g := gb179) (o := .cells #[.int .u64 a0_0, .int .u64 a0_1] 30 (0, 0)) (by (with_reducible repeat (first | refine blk_drewN ?_ _ | refine blk_drew ?_ | refine blk_alloc ?_ _)); exact BK179.out) hb)
  have n1_ := Aside0.mk (below_step (by repeat (first | (with_reducible first | exact HB.out | apply below_alloc | apply pw_below_drewN | apply below_drew1 | refine below_set ?_ GE179.out) | exact HB.out)) hb)
  clear BK179
  clear HB
  have BK179 := n0_
  have HB := n1_
  clear n0_ n1_
  (try clear hb)
  (try clear hb2)
  (try clear hk)
  (try clear hi)
  refine hK.out _ _ ⟨(blk_cell BK179.out 0).trans rfl, (blk_cell BK179.out 1).trans rfl⟩ (fun hHeld => ?_)
  clear hK K
  refine norm_ (a' := ?_) ?_ ?_
  rotate_left
  · show Act.put _ (some 7) _ = _
    simp only [Act.put, List.setIfInBounds_toArray, List.set_cons_zero, List.set_cons_succ, i64_w, i32_w]
    rfl
  refine one_ (i := 3) (N := some 8) #[true, true, true, true, false, false, false] rfl rfl (by kernel_rfl) (by decide) (fun K hK => ?_)
  refine goes_ Try.func20 (by kernel_rfl) rfl #[.agg #[.int .u64 a0_0, .int .u64 a0_1], .agg #[.int .u64 t180, .int .u64 t181]] (by rfl) rfl rfl (by (try simp only [List.map_toArray, List.map_cons, List.map_nil]); first | done | rfl | (simp only [List.length_drop, List.length_take]; rfl)) ?_
  with_reducible refine (set_Set_And.calls a0_0 a0_1 t180 t181 t182 t183 _ A4.out).mono ?_
  rintro e w9 ⟨rfl, hb⟩
  refine ⟨_, rfl, ?_⟩
  have n0_ := Aside0.mk (blk_below (g := gb179) (o := .cells #[.int .u64 a0_0, .int .u64 a0_1] 30 (0, 0)) (by (with_reducible repeat (first | refine blk_drewN ?_ _ | refine blk_drew ?_ | refine blk_alloc ?_ _)); exact BK179.out) hb)
  have n1_ := Aside0.mk (below_step (by repeat (first | (with_reducible first | exact HB.out | apply below_alloc | apply pw_below_drewN | apply below_drew1 | refine below_set ?_ GE179.out) | exact HB.out)) hb)
  clear BK179
  clear HB
  have BK179 := n0_
  have HB := n1_
  clear n0_ n1_
  (try clear hb)
  (try clear hb2)
  (try clear hk)
  (try clear hi)
  refine hK.out _ _ ⟨(blk_cell BK179.out 0).trans rfl, (blk_cell BK179.out 1).trans rfl⟩ (fun hHeld => ?_)
  clear hK K
  refine norm_ (a' := ?_) ?_ ?_
  rotate_left
  · show Act.put _ (some 8) _ = _
    simp only [Act.put, List.setIfInBounds_toArray, List.set_cons_zero, List.set_cons_succ, i64_w, i32_w]
    rfl
  refine one_ (i := 4) (N := some 9) #[true, true, true, true, true, false, false] rfl rfl (by kernel_rfl) (by decide) (fun K hK => ?_)
  refine goes_ Try.func21 (by kernel_rfl) rfl #[.agg #[.int .u64 t182, .int .u64 t183]] (by rfl) rfl rfl (by (try simp only [List.map_toArray, List.map_cons, List.map_nil]); first | done | rfl | (simp only [List.length_drop, List.length_take]; rfl)) ?_
  with_reducible refine (set_Set_Empty.calls t182 t183 t184 _ A5.out).mono ?_
  rintro e w10 ⟨rfl, hb⟩
  refine ⟨_, rfl, ?_⟩
  have n0_ := Aside0.mk (blk_below (g := gb179) (o := .cells #[.int .u64 a0_0, .int .u64 a0_1] 30 (0, 0)) (by (with_reducible repeat (first | refine blk_drewN ?_ _ | refine blk_drew ?_ | refine blk_alloc ?_ _)); exact BK179.out) hb)
  have n1_ := Aside0.mk (below_step (by repeat (first | (with_reducible first | exact HB.out | apply below_alloc | apply pw_below_drewN | apply below_drew1 | refine below_set ?_ GE179.out) | exact HB.out)) hb)
  clear BK179
  clear HB
  have BK179 := n0_
  have HB := n1_
  clear n0_ n1_
  (try clear hb)
  (try clear hb2)
  (try clear hk)
  (try clear hi)
  refine hK.out _ _ ⟨(blk_cell BK179.out 0).trans rfl, (blk_cell BK179.out 1).trans rfl⟩ (fun hHeld => ?_)
  clear hK K
  refine norm_ (a' := ?_) ?_ ?_
  rotate_left
  · show Act.put _ (some 9) _ = _
    simp only [Act.put, List.setIfInBounds_toArray, List.set_cons_zero, List.set_cons_succ, i64_w, i32_w]
    rfl
  refine pure_ (i := 5) (N := some 10) (v := ?_) (a' := ?_) #[true, true, true, true, true, true, false] rfl rfl (by kernel_rfl) (fun _ _ _ h => h) (Or.inl ⟨by rfl, ?_⟩) ?_ ?_
  rotate_left
  · intro w'
    go_simp
    with_reducible rfl
  rotate_left
  · simp only [Act.put, List.setIfInBounds_toArray, List.set_cons_zero, List.set_cons_succ, i64_w, i32_w]
    rfl
  refine pure_ (i := 6) (N := some 4) (v := ?_) (a' := ?_) #[true, true, true, true, true, true, true] rfl rfl (by kernel_rfl) (fun _ _ _ h => h) (Or.inl ⟨by rfl, ?_⟩) ?_ ?_
  rotate_left
  · intro w'
    go_simp
    with_reducible rfl
  rotate_left
  · simp only [Act.put, List.setIfInBounds_toArray, List.set_cons_zero, List.set_cons_succ, i64_w, i32_w]
    rfl
  refine done_ (by kernel_rfl) ?_
  try go_wp2
  go_ret
  exact ⟨by first | rfl | (simp [errW_none, errW_some] <;> rfl) | (simp [*, errW_none, errW_some] <;> rfl) | (simp [*, errW_none, errW_some]; generalize ByteArray.toList _ = q_; cases q_ <;> rfl), by repeat (first | (with_reducible first | exact HB.out | apply below_alloc | apply pw_below_drewN | apply below_drew1 | refine below_set ?_ GE179.out) | exact HB.out)⟩

/-! ### ray_Way: function 42 -/
def ray_Way.l0 : Nat → Int → Int → Int → Int → Int → Int → Int → Option (Int × Int)
  | 0, _, _, _, _, _, _, _ => none
  | k + 1, x0, x186000, x186001, x187000, x187001, x189000, x189001 => if x0 ≥ 0 then ((set_Set_With.f k x189000 x189001 x0).bind fun bt190 => ((set_Set_Has.f k x187000 x187001 x0).bind fun t192 => (if t192 = true then (some (bt190.1, bt190.2)) else ((step_Dir_From.f x186000 x186001 x0).bind fun t193 => (ray_Way.l0 k t193 x186000 x186001 x187000 x187001 bt190.1 bt190.2))))) else (some (x189000, x189001))
def ray_Way.f (k : Nat) (a0 : Int) (a1_0 : Int) (a1_1 : Int) (a2_0 : Int) (a2_1 : Int) : Option (Int × Int) := if (a1_0 == 0 && (a1_1 == 0)) = true then (some (0, 0)) else ((step_Dir_From.f a1_0 a1_1 a0).bind fun t189 => (ray_Way.l0 k t189 a1_0 a1_1 a2_0 a2_1 0 0))
theorem ray_Way.mono_l : ∀ k, (∀ y0 y1 y2 y3 y4 y5 y6, LeO (ray_Way.l0 k y0 y1 y2 y3 y4 y5 y6) (ray_Way.l0 (k + 1) y0 y1 y2 y3 y4 y5 y6))
  | 0 => fun _ _ _ _ _ _ _ r h => by simp [ray_Way.l0] at h
  | k + 1 => by
    have ih0 := ray_Way.mono_l k
    · intro y0 y1 y2 y3 y4 y5 y6
      unfold ray_Way.l0
      repeat' first
      | (with_reducible exact ih0 _ _ _ _ _ _ _)
      | (with_reducible exact set_Set_Has.mono _ _ _ _)
      | (with_reducible exact set_Set_With.mono _ _ _ _)
      | (with_reducible exact LeO.refl _)
      | (with_reducible exact LeO.none _)
      | (with_reducible refine LeO.ite ?_ ?_)
      | (with_reducible refine LeO.bind ?_ (fun _ => ?_))
      | exact ih0 _ _ _ _ _ _ _
      | exact set_Set_Has.mono _ _ _ _
      | exact set_Set_With.mono _ _ _ _
      | exact LeO.none _
      | refine LeO.ite ?_ ?_
      | refine LeO.bind ?_ (fun _ => ?_)
theorem ray_Way.mono : ∀ a0 a1 a2 a3 a4 k, LeO (ray_Way.f k a0 a1 a2 a3 a4) (ray_Way.f (k + 1) a0 a1 a2 a3 a4) := by
  intro a0 a1 a2 a3 a4 k
  have ih0 := ray_Way.mono_l k
  unfold ray_Way.f
  repeat' first
      | (with_reducible exact ih0 _ _ _ _ _ _ _)
      | (with_reducible exact set_Set_Has.mono _ _ _ _)
      | (with_reducible exact set_Set_With.mono _ _ _ _)
      | (with_reducible exact LeO.refl _)
      | (with_reducible exact LeO.none _)
      | (with_reducible refine LeO.ite ?_ ?_)
      | (with_reducible refine LeO.bind ?_ (fun _ => ?_))
      | exact ih0 _ _ _ _ _ _ _
      | exact set_Set_Has.mono _ _ _ _
      | exact set_Set_With.mono _ _ _ _
      | exact LeO.none _
      | refine LeO.ite ?_ ?_
      | refine LeO.bind ?_ (fun _ => ?_)
set_option maxHeartbeats 8000000 in
set_option maxRecDepth 100000 in
theorem ray_Way.calls (k : Nat) (a0 : Int) (a1_0 : Int) (a1_1 : Int) (a2_0 : Int) (a2_1 : Int) (r1 : Int) (r2 : Int) (w : World) (h : ray_Way.f k a0 a1_0 a1_1 a2_0 a2_1 = some (r1, r2)) :
    Calls Try.prog 42 #[.int .i64 a0, .agg #[.int .i64 a1_0, .int .i64 a1_1], .agg #[.int .u64 a2_0, .int .u64 a2_1]] w fun e w' => e = .returned (.agg #[.int .u64 r1, .int .u64 r2]) ∧ Below w.heap.size w w' := by
  have hu23 := Try.underlying23
  have hu30 := Try.underlying30
  have HB := Aside0.mk (Below.refl w.heap.size w)
  have H : (if (a1_0 == 0 && (a1_1 == 0)) = true then (some (0, 0)) else ((step_Dir_From.f a1_0 a1_1 a0).bind fun t189 => (ray_Way.l0 k t189 a1_0 a1_1 a2_0 a2_1 0 0))) = some (r1, r2) := h
  clear h
  by_cases c4 : (a1_0 == 0 && (a1_1 == 0)) = true
  · rw [if_pos c4] at H
    have c4b0 : (a1_0 == 0 && (a1_1 == 0)) = true := c4
    (try (have c4b1 : decide (a1_0 = 0 && (a1_1 == 0)) = true := by simpa using c4))
    (try (have c4b2 : (a1_0 == 0 && (a1_1 == 0)) = true := by simpa using c4))
    clear c4
    simp only [Option.some.injEq, Prod.mk.injEq] at H
    obtain ⟨rfl, rfl⟩ := H
    go_enter Try.func42, Try.ntmps42
    go_wp2_with (first | ((with_reducible refine gate_dst (N := 4) rfl ?_); refine box_event ?hg (N := 4) ?hd (cs := #[.int .i64 a1_0, .int .i64 a1_1]) (t := 23) ?hr ?_; (case hd => rfl); (case hg => rfl); (case hr => first | (go_simp; done) | (go_simp; rfl)); intro gb185 hg w5 hbox hb; have n0_ := Aside0.mk (below_step (by repeat (first | (with_reducible first | exact HB.out | apply below_alloc | apply pw_below_drewN | apply below_drew1) | exact HB.out)) hb); have n1_ := Aside0.mk (hbox); have n2_ := Aside0.mk ((by rw [hg]; exact (below_size (by repeat (first | (with_reducible first | exact HB.out | apply below_alloc | apply pw_below_drewN | apply below_drew1) | exact HB.out))) : w.heap.size ≤ gb185)); have n3_ := Aside0.mk ((by rw [hg]; exact (below_size (by repeat (first | (with_reducible first | exact HB.out | apply below_alloc | apply pw_below_drewN | apply below_drew1) | exact HB.out))) : w.heap.size ≤ gb185)); clear HB; have HB := n0_; have BK185 := n1_; have GW185 := n2_; have GE185 := n3_; clear n0_ n1_ n2_ n3_; clear hb hbox hg) | ((with_reducible refine gate_dst (N := 5) rfl ?_); refine box_event ?hg (N := 5) ?hd (cs := #[.int .u64 a2_0, .int .u64 a2_1]) (t := 30) ?hr ?_; (case hd => rfl); (case hg => rfl); (case hr => first | (go_simp; done) | (go_simp; rfl)); intro gb186 hg w6 hbox hb; have n0_ := Aside0.mk (blk_below (g := gb185) (o := .cells #[.int .i64 a1_0, .int .i64 a1_1] 23 (0, 0)) (by (with_reducible repeat (first | refine blk_drewN ?_ _ | refine blk_drew ?_ | refine blk_alloc ?_ _)); exact BK185.out) hb); have n1_ := Aside0.mk (below_step (by repeat (first | (with_reducible first | exact HB.out | apply below_alloc | apply pw_below_drewN | apply below_drew1 | refine below_set ?_ GE185.out) | exact HB.out)) hb); have n2_ := Aside0.mk (hbox); have n3_ := Aside0.mk ((by rw [hg]; exact (below_size (by repeat (first | (with_reducible first | exact HB.out | apply below_alloc | apply pw_below_drewN | apply below_drew1 | refine below_set ?_ GE185.out) | exact HB.out))) : w.heap.size ≤ gb186)); have n4_ := Aside0.mk ((by rw [hg]; exact (below_size (by repeat (first | (with_reducible first | exact HB.out | apply below_alloc | apply pw_below_drewN | apply below_drew1 | refine below_set ?_ GE185.out) | exact HB.out))) : w.heap.size ≤ gb186)); have n5_ := Aside0.mk ((by rw [hg]; exact Nat.ne_of_lt (blk_lt (g := gb185) (o := .cells #[.int .i64 a1_0, .int .i64 a1_1] 23 (0, 0)) (by (with_reducible repeat (first | refine blk_drewN ?_ _ | refine blk_drew ?_ | refine blk_alloc ?_ _)); exact BK185.out)) : gb185 ≠ gb186)); have n6_ := Aside0.mk ((by rw [hg]; exact Nat.ne_of_gt (blk_lt (g := gb185) (o := .cells #[.int .i64 a1_0, .int .i64 a1_1] 23 (0, 0)) (by (with_reducible repeat (first | refine blk_drewN ?_ _ | refine blk_drew ?_ | refine blk_alloc ?_ _)); exact BK185.out)) : gb186 ≠ gb185)); clear BK185; clear HB; have BK185 := n0_; have HB := n1_; have BK186 := n2_; have GW186 := n3_; have GE186 := n4_; have NB185_186 := n5_; have NB186_185 := n6_; clear n0_ n1_ n2_ n3_ n4_ n5_ n6_; clear hb hbox hg) | ((with_reducible refine gate_dst (N := 6) rfl ?_); refine box_event ?hg (N := 6) ?hd (cs := #[.int .u64 0, .int .u64 0]) (t := 30) ?hr ?_; (case hd => rfl); (case hg => rfl); (case hr => first | (go_simp; done) | (go_simp; rfl)); intro gb187 hg w7 hbox hb; have n0_ := Aside0.mk (blk_below (g := gb185) (o := .cells #[.int .i64 a1_0, .int .i64 a1_1] 23 (0, 0)) (by (with_reducible repeat (first | refine blk_drewN ?_ _ | refine blk_drew ?_ | refine blk_alloc ?_ _)); exact BK185.out) hb); have n1_ := Aside0.mk (blk_below (g := gb186) (o := .cells #[.int .u64 a2_0, .int .u64 a2_1] 30 (0, 0)) (by (with_reducible repeat (first | refine blk_drewN ?_ _ | refine blk_drew ?_ | refine blk_alloc ?_ _)); exact BK186.out) hb); have n2_ := Aside0.mk (below_step (by repeat (first | (with_reducible first | exact HB.out | apply below_alloc | apply pw_below_drewN | apply below_drew1 | refine below_set ?_ GE185.out | refine below_set ?_ GE186.out) | exact HB.out)) hb); have n3_ := Aside0.mk (hbox); have n4_ := Aside0.mk ((by rw [hg]; exact (below_size (by repeat (first | (with_reducible first | exact HB.out | apply below_alloc | apply pw_below_drewN | apply below_drew1 | refine below_set ?_ GE185.out | refine below_set ?_ GE186.out) | exact HB.out))) : w.heap.size ≤ gb187)); have n5_ := Aside0.mk ((by rw [hg]; exact (below_size (by repeat (first | (with_reducible first | exact HB.out | apply below_alloc | apply pw_below_drewN | apply below_drew1 | refine below_set ?_ GE185.out | refine below_set ?_ GE186.out) | exact HB.out))) : w.heap.size ≤ gb187)); have n6_ := Aside0.mk ((by rw [hg]; exact Nat.ne_of_lt (blk_lt (g := gb185) (o := .cells #[.int .i64 a1_0, .int .i64 a1_1] 23 (0, 0)) (by (with_reducible repeat (first | refine blk_drewN ?_ _ | refine blk_drew ?_ | refine blk_alloc ?_ _)); exact BK185.out)) : gb185 ≠ gb187)); have n7_ := Aside0.mk ((by rw [hg]; exact Nat.ne_of_gt (blk_lt (g := gb185) (o := .cells #[.int .i64 a1_0, .int .i64 a1_1] 23 (0, 0)) (by (with_reducible repeat (first | refine blk_drewN ?_ _ | refine blk_drew ?_ | refine blk_alloc ?_ _)); exact BK185.out)) : gb187 ≠ gb185)); have n8_ := Aside0.mk ((by rw [hg]; exact Nat.ne_of_lt (blk_lt (g := gb186) (o := .cells #[.int .u64 a2_0, .int .u64 a2_1] 30 (0, 0)) (by (with_reducible repeat (first | refine blk_drewN ?_ _ | refine blk_drew ?_ | refine blk_alloc ?_ _)); exact BK186.out)) : gb186 ≠ gb187)); have n9_ := Aside0.mk ((by rw [hg]; exact Nat.ne_of_gt (blk_lt (g := gb186) (o := .cells #[.int .u64 a2_0, .int .u64 a2_1] 30 (0, 0)) (by (with_reducible repeat (first | refine blk_drewN ?_ _ | refine blk_drew ?_ | refine blk_alloc ?_ _)); exact BK186.out)) : gb187 ≠ gb186)); clear BK185; clear BK186; clear HB; have BK185 := n0_; have BK186 := n1_; have HB := n2_; have BK187 := n3_; have GW187 := n4_; have GE187 := n5_; have NB185_187 := n6_; have NB187_185 := n7_; have NB186_187 := n8_; have NB187_186 := n9_; clear n0_ n1_ n2_ n3_ n4_ n5_ n6_ n7_ n8_ n9_; clear hb hbox hg) | ((with_reducible refine gate_dst (N := 7) rfl ?_); refine box_event ?hg (N := 7) ?hd (cs := #[.int .u64 0, .int .u64 0]) (t := 30) ?hr ?_; (case hd => rfl); (case hg => rfl); (case hr => first | (go_simp; done) | (go_simp; rfl)); intro gb188 hg w8 hbox hb; have n0_ := Aside0.mk (blk_below (g := gb185) (o := .cells #[.int .i64 a1_0, .int .i64 a1_1] 23 (0, 0)) (by (with_reducible repeat (first | refine blk_drewN ?_ _ | refine blk_drew ?_ | refine blk_alloc ?_ _)); exact BK185.out) hb); have n1_ := Aside0.mk (blk_below (g := gb186) (o := .cells #[.int .u64 a2_0, .int .u64 a2_1] 30 (0, 0)) (by (with_reducible repeat (first | refine blk_drewN ?_ _ | refine blk_drew ?_ | refine blk_alloc ?_ _)); exact BK186.out) hb); have n2_ := Aside0.mk (blk_below (g := gb187) (o := .cells #[.int .u64 0, .int .u64 0] 30 (0, 0)) (by (with_reducible repeat (first | refine blk_drewN ?_ _ | refine blk_drew ?_ | refine blk_alloc ?_ _)); exact BK187.out) hb); have n3_ := Aside0.mk (below_step (by repeat (first | (with_reducible first | exact HB.out | apply below_alloc | apply pw_below_drewN | apply below_drew1 | refine below_set ?_ GE185.out | refine below_set ?_ GE186.out | refine below_set ?_ GE187.out) | exact HB.out)) hb); have n4_ := Aside0.mk (hbox); have n5_ := Aside0.mk ((by rw [hg]; exact (below_size (by repeat (first | (with_reducible first | exact HB.out | apply below_alloc | apply pw_below_drewN | apply below_drew1 | refine below_set ?_ GE185.out | refine below_set ?_ GE186.out | refine below_set ?_ GE187.out) | exact HB.out))) : w.heap.size ≤ gb188)); have n6_ := Aside0.mk ((by rw [hg]; exact (below_size (by repeat (first | (with_reducible first | exact HB.out | apply below_alloc | apply pw_below_drewN | apply below_drew1 | refine below_set ?_ GE185.out | refine below_set ?_ GE186.out | refine below_set ?_ GE187.out) | exact HB.out))) : w.heap.size ≤ gb188)); have n7_ := Aside0.mk ((by rw [hg]; exact Nat.ne_of_lt (blk_lt (g := gb185) (o := .cells #[.int .i64 a1_0, .int .i64 a1_1] 23 (0, 0)) (by (with_reducible repeat (first | refine blk_drewN ?_ _ | refine blk_drew ?_ | refine blk_alloc ?_ _)); exact BK185.out)) : gb185 ≠ gb188)); have n8_ := Aside0.mk ((by rw [hg]; exact Nat.ne_of_gt (blk_lt (g := gb185) (o := .cells #[.int .i64 a1_0, .int .i64 a1_1] 23 (0, 0)) (by (with_reducible repeat (first | refine blk_drewN ?_ _ | refine blk_drew ?_ | refine blk_alloc ?_ _)); exact BK185.out)) : gb188 ≠ gb185)); have n9_ := Aside0.mk ((by rw [hg]; exact Nat.ne_of_lt (blk_lt (g := gb186) (o := .cells #[.int .u64 a2_0, .int .u64 a2_1] 30 (0, 0)) (by (with_reducible repeat (first | refine blk_drewN ?_ _ | refine blk_drew ?_ | refine blk_alloc ?_ _)); exact BK186.out)) : gb186 ≠ gb188)); have n10_ := Aside0.mk ((by rw [hg]; exact Nat.ne_of_gt (blk_lt (g := gb186) (o := .cells #[.int .u64 a2_0, .int .u64 a2_1] 30 (0, 0)) (by (with_reducible repeat (first | refine blk_drewN ?_ _ | refine blk_drew ?_ | refine blk_alloc ?_ _)); exact BK186.out)) : gb188 ≠ gb186)); have n11_ := Aside0.mk ((by rw [hg]; exact Nat.ne_of_lt (blk_lt (g := gb187) (o := .cells #[.int .u64 0, .int .u64 0] 30 (0, 0)) (by (with_reducible repeat (first | refine blk_drewN ?_ _ | refine blk_drew ?_ | refine blk_alloc ?_ _)); exact BK187.out)) : gb187 ≠ gb188)); have n12_ := Aside0.mk ((by rw [hg]; exact Nat.ne_of_gt (blk_lt (g := gb187) (o := .cells #[.int .u64 0, .int .u64 0] 30 (0, 0)) (by (with_reducible repeat (first | refine blk_drewN ?_ _ | refine blk_drew ?_ | refine blk_alloc ?_ _)); exact BK187.out)) : gb188 ≠ gb187)); clear BK185; clear BK186; clear BK187; clear HB; have BK185 := n0_; have BK186 := n1_; have BK187 := n2_; have HB := n3_; have BK188 := n4_; have GW188 := n5_; have GE188 := n6_; have NB185_188 := n7_; have NB188_185 := n8_; have NB186_188 := n9_; have NB188_186 := n10_; have NB187_188 := n11_; have NB188_187 := n12_; clear n0_ n1_ n2_ n3_ n4_ n5_ n6_ n7_ n8_ n9_ n10_ n11_ n12_; clear hb hbox hg; have hnb9 := NB185_186.out; have hnc9 := NB186_185.out; have hnb10 := NB185_187.out; have hnc10 := NB187_185.out; have hnb11 := NB185_188.out; have hnc11 := NB188_185.out; have hcz12_0 : w8.cell? ⟨gb185, 0, none⟩ = some (.int .i64 a1_0) := (blk_cell BK185.out 0).trans rfl; have hcz12_1 : w8.cell? ⟨gb185, 1, none⟩ = some (.int .i64 a1_1) := (blk_cell BK185.out 1).trans rfl; have hfz12_0 := blk_frozen BK185.out 0; have hfz12_1 := blk_frozen BK185.out 1; have hnb13 := NB188_186.out; have hnc13 := NB186_188.out; have hnb14 := NB188_187.out; have hnc14 := NB187_188.out; have hcz15_0 : w8.cell? ⟨gb188, 0, none⟩ = some (.int .u64 0) := (blk_cell BK188.out 0).trans rfl; have hcz15_1 : w8.cell? ⟨gb188, 1, none⟩ = some (.int .u64 0) := (blk_cell BK188.out 1).trans rfl; have hfz15_0 := blk_frozen BK188.out 0; have hfz15_1 := blk_frozen BK188.out 1; have hnb16 := NB187_186.out; have hnc16 := NB186_187.out; have hcz17_0 : w8.cell? ⟨gb187, 0, none⟩ = some (.int .u64 0) := (blk_cell BK187.out 0).trans rfl; have hcz17_1 : w8.cell? ⟨gb187, 1, none⟩ = some (.int .u64 0) := (blk_cell BK187.out 1).trans rfl; have hfz17_0 := blk_frozen BK187.out 0; have hfz17_1 := blk_frozen BK187.out 1))
    refine bodyPost_ret (results_cell_row rfl _ _ gb187 30 #[.int .u64 0, .int .u64 0] (0, 0) _ rfl (by (with_reducible repeat (first | refine blk_drewN ?_ _ | refine blk_drew ?_ | refine blk_alloc ?_ _)); refine blk_put (cs := #[.int .u64 0, .int .u64 0]) ?_ 1 _ rfl; (with_reducible repeat (first | refine blk_drewN ?_ _ | refine blk_drew ?_ | refine blk_alloc ?_ _)); refine blk_put (cs := #[.int .u64 0, .int .u64 0]) ?_ 0 _ rfl; (with_reducible repeat (first | refine blk_drewN ?_ _ | refine blk_drew ?_ | refine blk_alloc ?_ _)); exact BK187.out) Try.underlying30 rfl (by kernel_rfl)) rfl ?_
    exact ⟨by first | rfl | (simp [errW_none, errW_some] <;> rfl) | (simp [*, errW_none, errW_some] <;> rfl) | (simp [*, errW_none, errW_some]; generalize ByteArray.toList _ = q_; cases q_ <;> rfl), by repeat (first | (with_reducible first | exact HB.out | apply below_alloc | apply pw_below_drewN | apply below_drew1 | refine below_set ?_ GE185.out | refine below_set ?_ GE186.out | refine below_set ?_ GE187.out | refine below_set ?_ GE188.out) | exact HB.out)⟩
  · rw [if_neg c4] at H
    have c4b0 : (a1_0 == 0 && (a1_1 == 0)) = false := by simpa using c4
    (try (have c4b1 : decide (a1_0 = 0 && (a1_1 == 0)) = false := by simpa using c4))
    (try (have c4b2 : (a1_0 == 0 && (a1_1 == 0)) = false := by simpa using c4))
    (try (have c4b3 : ¬ (a1_0 = 0 && (a1_1 == 0)) := by simpa using c4))
    clear c4
    replace H := Option.bind_eq_some_iff.mp H
    obtain ⟨t189, A180, H⟩ := H
    replace H : (ray_Way.l0 k t189 a1_0 a1_1 a2_0 a2_1 0 0) = some (r1, r2) := H
    have A18 := Aside0.mk A180
    clear A180
    have H' := Aside0.mk H
    clear H
    go_enter Try.func42, Try.ntmps42
    go_wp2_with (first | ((with_reducible refine gate_dst (N := 4) rfl ?_); refine box_event ?hg (N := 4) ?hd (cs := #[.int .i64 a1_0, .int .i64 a1_1]) (t := 23) ?hr ?_; (case hd => rfl); (case hg => rfl); (case hr => first | (go_simp; done) | (go_simp; rfl)); intro gb185 hg w19 hbox hb; have n0_ := Aside0.mk (below_step (by repeat (first | (with_reducible first | exact HB.out | apply below_alloc | apply pw_below_drewN | apply below_drew1) | exact HB.out)) hb); have n1_ := Aside0.mk (hbox); have n2_ := Aside0.mk ((by rw [hg]; exact (below_size (by repeat (first | (with_reducible first | exact HB.out | apply below_alloc | apply pw_below_drewN | apply below_drew1) | exact HB.out))) : w.heap.size ≤ gb185)); have n3_ := Aside0.mk ((by rw [hg]; exact (below_size (by repeat (first | (with_reducible first | exact HB.out | apply below_alloc | apply pw_below_drewN | apply below_drew1) | exact HB.out))) : w.heap.size ≤ gb185)); clear HB; have HB := n0_; have BK185 := n1_; have GW185 := n2_; have GE185 := n3_; clear n0_ n1_ n2_ n3_; clear hb hbox hg) | ((with_reducible refine gate_dst (N := 5) rfl ?_); refine box_event ?hg (N := 5) ?hd (cs := #[.int .u64 a2_0, .int .u64 a2_1]) (t := 30) ?hr ?_; (case hd => rfl); (case hg => rfl); (case hr => first | (go_simp; done) | (go_simp; rfl)); intro gb186 hg w20 hbox hb; have n0_ := Aside0.mk (blk_below (g := gb185) (o := .cells #[.int .i64 a1_0, .int .i64 a1_1] 23 (0, 0)) (by (with_reducible repeat (first | refine blk_drewN ?_ _ | refine blk_drew ?_ | refine blk_alloc ?_ _)); exact BK185.out) hb); have n1_ := Aside0.mk (below_step (by repeat (first | (with_reducible first | exact HB.out | apply below_alloc | apply pw_below_drewN | apply below_drew1 | refine below_set ?_ GE185.out) | exact HB.out)) hb); have n2_ := Aside0.mk (hbox); have n3_ := Aside0.mk ((by rw [hg]; exact (below_size (by repeat (first | (with_reducible first | exact HB.out | apply below_alloc | apply pw_below_drewN | apply below_drew1 | refine below_set ?_ GE185.out) | exact HB.out))) : w.heap.size ≤ gb186)); have n4_ := Aside0.mk ((by rw [hg]; exact (below_size (by repeat (first | (with_reducible first | exact HB.out | apply below_alloc | apply pw_below_drewN | apply below_drew1 | refine below_set ?_ GE185.out) | exact HB.out))) : w.heap.size ≤ gb186)); have n5_ := Aside0.mk ((by rw [hg]; exact Nat.ne_of_lt (blk_lt (g := gb185) (o := .cells #[.int .i64 a1_0, .int .i64 a1_1] 23 (0, 0)) (by (with_reducible repeat (first | refine blk_drewN ?_ _ | refine blk_drew ?_ | refine blk_alloc ?_ _)); exact BK185.out)) : gb185 ≠ gb186)); have n6_ := Aside0.mk ((by rw [hg]; exact Nat.ne_of_gt (blk_lt (g := gb185) (o := .cells #[.int .i64 a1_0, .int .i64 a1_1] 23 (0, 0)) (by (with_reducible repeat (first | refine blk_drewN ?_ _ | refine blk_drew ?_ | refine blk_alloc ?_ _)); exact BK185.out)) : gb186 ≠ gb185)); clear BK185; clear HB; have BK185 := n0_; have HB := n1_; have BK186 := n2_; have GW186 := n3_; have GE186 := n4_; have NB185_186 := n5_; have NB186_185 := n6_; clear n0_ n1_ n2_ n3_ n4_ n5_ n6_; clear hb hbox hg) | ((with_reducible refine gate_dst (N := 6) rfl ?_); refine box_event ?hg (N := 6) ?hd (cs := #[.int .u64 0, .int .u64 0]) (t := 30) ?hr ?_; (case hd => rfl); (case hg => rfl); (case hr => first | (go_simp; done) | (go_simp; rfl)); intro gb187 hg w21 hbox hb; have n0_ := Aside0.mk (blk_below (g := gb185) (o := .cells #[.int .i64 a1_0, .int .i64 a1_1] 23 (0, 0)) (by (with_reducible repeat (first | refine blk_drewN ?_ _ | refine blk_drew ?_ | refine blk_alloc ?_ _)); exact BK185.out) hb); have n1_ := Aside0.mk (blk_below (g := gb186) (o := .cells #[.int .u64 a2_0, .int .u64 a2_1] 30 (0, 0)) (by (with_reducible repeat (first | refine blk_drewN ?_ _ | refine blk_drew ?_ | refine blk_alloc ?_ _)); exact BK186.out) hb); have n2_ := Aside0.mk (below_step (by repeat (first | (with_reducible first | exact HB.out | apply below_alloc | apply pw_below_drewN | apply below_drew1 | refine below_set ?_ GE185.out | refine below_set ?_ GE186.out) | exact HB.out)) hb); have n3_ := Aside0.mk (hbox); have n4_ := Aside0.mk ((by rw [hg]; exact (below_size (by repeat (first | (with_reducible first | exact HB.out | apply below_alloc | apply pw_below_drewN | apply below_drew1 | refine below_set ?_ GE185.out | refine below_set ?_ GE186.out) | exact HB.out))) : w.heap.size ≤ gb187)); have n5_ := Aside0.mk ((by rw [hg]; exact (below_size (by repeat (first | (with_reducible first | exact HB.out | apply below_alloc | apply pw_below_drewN | apply below_drew1 | refine below_set ?_ GE185.out | refine below_set ?_ GE186.out) | exact HB.out))) : w.heap.size ≤ gb187)); have n6_ := Aside0.mk ((by rw [hg]; exact Nat.ne_of_lt (blk_lt (g := gb185) (o := .cells #[.int .i64 a1_0, .int .i64 a1_1] 23 (0, 0)) (by (with_reducible repeat (first | refine blk_drewN ?_ _ | refine blk_drew ?_ | refine blk_alloc ?_ _)); exact BK185.out)) : gb185 ≠ gb187)); have n7_ := Aside0.mk ((by rw [hg]; exact Nat.ne_of_gt (blk_lt (g := gb185) (o := .cells #[.int .i64 a1_0, .int .i64 a1_1] 23 (0, 0)) (by (with_reducible repeat (first | refine blk_drewN ?_ _ | refine blk_drew ?_ | refine blk_alloc ?_ _)); exact BK185.out)) : gb187 ≠ gb185)); have n8_ := Aside0.mk ((by rw [hg]; exact Nat.ne_of_lt (blk_lt (g := gb186) (o := .cells #[.int .u64 a2_0, .int .u64 a2_1] 30 (0, 0)) (by (with_reducible repeat (first | refine blk_drewN ?_ _ | refine blk_drew ?_ | refine blk_alloc ?_ _)); exact BK186.out)) : gb186 ≠ gb187)); have n9_ := Aside0.mk ((by rw [hg]; exact Nat.ne_of_gt (blk_lt (g := gb186) (o := .cells #[.int .u64 a2_0, .int .u64 a2_1] 30 (0, 0)) (by (with_reducible repeat (first | refine blk_drewN ?_ _ | refine blk_drew ?_ | refine blk_alloc ?_ _)); exact BK186.out)) : gb187 ≠ gb186)); clear BK185; clear BK186; clear HB; have BK185 := n0_; have BK186 := n1_; have HB := n2_; have BK187 := n3_; have GW187 := n4_; have GE187 := n5_; have NB185_187 := n6_; have NB187_185 := n7_; have NB186_187 := n8_; have NB187_186 := n9_; clear n0_ n1_ n2_ n3_ n4_ n5_ n6_ n7_ n8_ n9_; clear hb hbox hg) | ((with_reducible refine gate_dst (N := 7) rfl ?_); refine box_event ?hg (N := 7) ?hd (cs := #[.int .u64 0, .int .u64 0]) (t := 30) ?hr ?_; (case hd => rfl); (case hg => rfl); (case hr => first | (go_simp; done) | (go_simp; rfl)); intro gb188 hg w22 hbox hb; have n0_ := Aside0.mk (blk_below (g := gb185) (o := .cells #[.int .i64 a1_0, .int .i64 a1_1] 23 (0, 0)) (by (with_reducible repeat (first | refine blk_drewN ?_ _ | refine blk_drew ?_ | refine blk_alloc ?_ _)); exact BK185.out) hb); have n1_ := Aside0.mk (blk_below (g := gb186) (o := .cells #[.int .u64 a2_0, .int .u64 a2_1] 30 (0, 0)) (by (with_reducible repeat (first | refine blk_drewN ?_ _ | refine blk_drew ?_ | refine blk_alloc ?_ _)); exact BK186.out) hb); have n2_ := Aside0.mk (blk_below (g := gb187) (o := .cells #[.int .u64 0, .int .u64 0] 30 (0, 0)) (by (with_reducible repeat (first | refine blk_drewN ?_ _ | refine blk_drew ?_ | refine blk_alloc ?_ _)); exact BK187.out) hb); have n3_ := Aside0.mk (below_step (by repeat (first | (with_reducible first | exact HB.out | apply below_alloc | apply pw_below_drewN | apply below_drew1 | refine below_set ?_ GE185.out | refine below_set ?_ GE186.out | refine below_set ?_ GE187.out) | exact HB.out)) hb); have n4_ := Aside0.mk (hbox); have n5_ := Aside0.mk ((by rw [hg]; exact (below_size (by repeat (first | (with_reducible first | exact HB.out | apply below_alloc | apply pw_below_drewN | apply below_drew1 | refine below_set ?_ GE185.out | refine below_set ?_ GE186.out | refine below_set ?_ GE187.out) | exact HB.out))) : w.heap.size ≤ gb188)); have n6_ := Aside0.mk ((by rw [hg]; exact (below_size (by repeat (first | (with_reducible first | exact HB.out | apply below_alloc | apply pw_below_drewN | apply below_drew1 | refine below_set ?_ GE185.out | refine below_set ?_ GE186.out | refine below_set ?_ GE187.out) | exact HB.out))) : w.heap.size ≤ gb188)); have n7_ := Aside0.mk ((by rw [hg]; exact Nat.ne_of_lt (blk_lt (g := gb185) (o := .cells #[.int .i64 a1_0, .int .i64 a1_1] 23 (0, 0)) (by (with_reducible repeat (first | refine blk_drewN ?_ _ | refine blk_drew ?_ | refine blk_alloc ?_ _)); exact BK185.out)) : gb185 ≠ gb188)); have n8_ := Aside0.mk ((by rw [hg]; exact Nat.ne_of_gt (blk_lt (g := gb185) (o := .cells #[.int .i64 a1_0, .int .i64 a1_1] 23 (0, 0)) (by (with_reducible repeat (first | refine blk_drewN ?_ _ | refine blk_drew ?_ | refine blk_alloc ?_ _)); exact BK185.out)) : gb188 ≠ gb185)); have n9_ := Aside0.mk ((by rw [hg]; exact Nat.ne_of_lt (blk_lt (g := gb186) (o := .cells #[.int .u64 a2_0, .int .u64 a2_1] 30 (0, 0)) (by (with_reducible repeat (first | refine blk_drewN ?_ _ | refine blk_drew ?_ | refine blk_alloc ?_ _)); exact BK186.out)) : gb186 ≠ gb188)); have n10_ := Aside0.mk ((by rw [hg]; exact Nat.ne_of_gt (blk_lt (g := gb186) (o := .cells #[.int .u64 a2_0, .int .u64 a2_1] 30 (0, 0)) (by (with_reducible repeat (first | refine blk_drewN ?_ _ | refine blk_drew ?_ | refine blk_alloc ?_ _)); exact BK186.out)) : gb188 ≠ gb186)); have n11_ := Aside0.mk ((by rw [hg]; exact Nat.ne_of_lt (blk_lt (g := gb187) (o := .cells #[.int .u64 0, .int .u64 0] 30 (0, 0)) (by (with_reducible repeat (first | refine blk_drewN ?_ _ | refine blk_drew ?_ | refine blk_alloc ?_ _)); exact BK187.out)) : gb187 ≠ gb188)); have n12_ := Aside0.mk ((by rw [hg]; exact Nat.ne_of_gt (blk_lt (g := gb187) (o := .cells #[.int .u64 0, .int .u64 0] 30 (0, 0)) (by (with_reducible repeat (first | refine blk_drewN ?_ _ | refine blk_drew ?_ | refine blk_alloc ?_ _)); exact BK187.out)) : gb188 ≠ gb187)); clear BK185; clear BK186; clear BK187; clear HB; have BK185 := n0_; have BK186 := n1_; have BK187 := n2_; have HB := n3_; have BK188 := n4_; have GW188 := n5_; have GE188 := n6_; have NB185_188 := n7_; have NB188_185 := n8_; have NB186_188 := n9_; have NB188_186 := n10_; have NB187_188 := n11_; have NB188_187 := n12_; clear n0_ n1_ n2_ n3_ n4_ n5_ n6_ n7_ n8_ n9_ n10_ n11_ n12_; clear hb hbox hg; have hnb23 := NB185_186.out; have hnc23 := NB186_185.out; have hnb24 := NB185_187.out; have hnc24 := NB187_185.out; have hnb25 := NB185_188.out; have hnc25 := NB188_185.out; have hcz26_0 : w22.cell? ⟨gb185, 0, none⟩ = some (.int .i64 a1_0) := (blk_cell BK185.out 0).trans rfl; have hcz26_1 : w22.cell? ⟨gb185, 1, none⟩ = some (.int .i64 a1_1) := (blk_cell BK185.out 1).trans rfl; have hfz26_0 := blk_frozen BK185.out 0; have hfz26_1 := blk_frozen BK185.out 1) | ((with_reducible refine gate_callee (f := 10) rfl ?_); refine goesL_ (some 14) rfl rfl Try.func10 (by kernel_rfl) rfl #[.agg #[.int .i64 a1_0, .int .i64 a1_1], .int .i64 a0] rfl (by (try simp only [List.map_toArray, List.map_cons, List.map_nil]); first | done | rfl | (simp only [List.length_drop, List.length_take]; rfl)) ?_; (with_reducible refine (step_Dir_From.calls a1_0 a1_1 a0 t189 _ A18.out).mono ?_); rintro e w27 ⟨rfl, hb⟩; refine ⟨_, rfl, ?_⟩; have n0_ := Aside0.mk (blk_below (g := gb185) (o := .cells #[.int .i64 a1_0, .int .i64 a1_1] 23 (0, 0)) (by (with_reducible repeat (first | refine blk_drewN ?_ _ | refine blk_drew ?_ | refine blk_alloc ?_ _)); exact BK185.out) hb); have n1_ := Aside0.mk (blk_below (g := gb186) (o := .cells #[.int .u64 a2_0, .int .u64 a2_1] 30 (0, 0)) (by (with_reducible repeat (first | refine blk_drewN ?_ _ | refine blk_drew ?_ | refine blk_alloc ?_ _)); exact BK186.out) hb); have n2_ := Aside0.mk (blk_below (g := gb187) (o := .cells #[.int .u64 0, .int .u64 0] 30 (0, 0)) (by (with_reducible repeat (first | refine blk_drewN ?_ _ | refine blk_drew ?_ | refine blk_alloc ?_ _)); exact BK187.out) hb); have n3_ := Aside0.mk (blk_below (g := gb188) (o := .cells #[.int .u64 0, .int .u64 0] 30 (0, 0)) (by (with_reducible repeat (first | refine blk_drewN ?_ _ | refine blk_drew ?_ | refine blk_alloc ?_ _)); exact BK188.out) hb); have n4_ := Aside0.mk (below_step (by repeat (first | (with_reducible first | exact HB.out | apply below_alloc | apply pw_below_drewN | apply below_drew1 | refine below_set ?_ GE185.out | refine below_set ?_ GE186.out | refine below_set ?_ GE187.out | refine below_set ?_ GE188.out) | exact HB.out)) hb); clear BK185; clear BK186; clear BK187; clear BK188; clear HB; have BK185 := n0_; have BK186 := n1_; have BK187 := n2_; have BK188 := n3_; have HB := n4_; clear n0_ n1_ n2_ n3_ n4_; (try clear hb); (try clear hb2); (try clear hk); (try clear hi)))
    go_loopg [0] k (fun kq v0 w' => ∃ (x0_1 : Int) (x189000_1 : Int) (x189001_1 : Int), v0 = .int .i64 x0_1 ∧ Aside0 (ray_Way.l0 kq x0_1 a1_0 a1_1 a2_0 a2_1 x189000_1 x189001_1 = some (r1, r2)) ∧ Aside0 (kq ≤ k) ∧ Aside0 (w'.heap[gb185]? = some (.cells #[.int .i64 a1_0, .int .i64 a1_1] 23 (0, 0))) ∧ Aside0 (w'.heap[gb186]? = some (.cells #[.int .u64 a2_0, .int .u64 a2_1] 30 (0, 0))) ∧ Aside0 (w'.heap[gb187]? = some (.cells #[.int .u64 0, .int .u64 0] 30 (0, 0))) ∧ Aside0 (w'.heap[gb188]? = some (.cells #[.int .u64 x189000_1, .int .u64 x189001_1] 30 (0, 0))) ∧ Aside0 (Below w.heap.size w w'))
    case atStart => exact ⟨(t189), (0), (0), (by first | rfl | (simp; done) | (simp [*]; done)), H', ⟨Nat.le_refl _⟩, ⟨by (with_reducible repeat (first | refine blk_drewN ?_ _ | refine blk_drew ?_ | refine blk_alloc ?_ _)); exact BK185.out⟩, ⟨by (with_reducible repeat (first | refine blk_drewN ?_ _ | refine blk_drew ?_ | refine blk_alloc ?_ _)); exact BK186.out⟩, ⟨by (with_reducible repeat (first | refine blk_drewN ?_ _ | refine blk_drew ?_ | refine blk_alloc ?_ _)); exact BK187.out⟩, ⟨by (with_reducible repeat (first | refine blk_drewN ?_ _ | refine blk_drew ?_ | refine blk_alloc ?_ _)); exact BK188.out⟩, ⟨by repeat (first | (with_reducible first | exact HB.out | apply below_alloc | apply pw_below_drewN | apply below_drew1 | refine below_set ?_ GE185.out | refine below_set ?_ GE186.out | refine below_set ?_ GE187.out | refine below_set ?_ GE188.out) | exact HB.out)⟩⟩
    case round =>
      clear H'
      try clear c1
      try clear c2
      try clear p2
      try clear c4
      try clear c4b0
      try clear c4b1
      try clear c4b2
      try clear c9
      try clear c10
      try clear c11
      try clear c13
      try clear c14
      try clear c16
      try clear c23
      try clear c24
      try clear c25
      try clear hcz12_0
      try clear hcz12_1
      try clear hcz15_0
      try clear hcz15_1
      try clear hcz17_0
      try clear hcz17_1
      try clear hcz26_0
      try clear hcz26_1
      try clear hfz12_0
      try clear hfz12_1
      try clear hfz15_0
      try clear hfz15_1
      try clear hfz17_0
      try clear hfz17_1
      try clear hfz26_0
      try clear hfz26_1
      obtain ⟨x0_1, x189000_1, x189001_1, rfl, HA, HK1, BK185, BK186, BK187, BK188, HB⟩ := hrel
      cases gk with
      | zero => exact absurd HA.out (by simp [ray_Way.l0])
      | succ k1 =>
        have H := HA.out
        clear HA
        simp only [ray_Way.l0] at H
        by_cases c28 : x0_1 ≥ 0
        · rw [if_pos c28] at H
          have c28b0 : decide (0 ≤ x0_1) = true := decide_eq_true c28
          clear c28
          replace H := Option.bind_eq_some_iff.mp H
          obtain ⟨⟨t190, t191⟩, A290, H⟩ := H
          replace H : ((set_Set_Has.f k1 a2_0 a2_1 x0_1).bind fun t192 => (if t192 = true then (some (t190, t191)) else ((step_Dir_From.f a1_0 a1_1 x0_1).bind fun t193 => (ray_Way.l0 k1 t193 a1_0 a1_1 a2_0 a2_1 t190 t191)))) = some (r1, r2) := H
          have A29 := Aside0.mk A290
          clear A290
          replace H := Option.bind_eq_some_iff.mp H
          obtain ⟨t192, A300, H⟩ := H
          replace H : (if t192 = true then (some (t190, t191)) else ((step_Dir_From.f a1_0 a1_1 x0_1).bind fun t193 => (ray_Way.l0 k1 t193 a1_0 a1_1 a2_0 a2_1 t190 t191))) = some (r1, r2) := H
          have A30 := Aside0.mk A300
          clear A300
          by_cases c31 : t192 = true
          · subst c31
            have H1 : (some (t190, t191)) = some (r1, r2) := by rw [if_pos rfl] at H; exact H
            clear H
            have H := H1
            clear H1
            simp only [Option.some.injEq, Prod.mk.injEq] at H
            obtain ⟨rfl, rfl⟩ := H
            have hnb32 := NB188_185.out
            have hnc32 := NB185_188.out
            have hnb33 := NB188_186.out
            have hnc33 := NB186_188.out
            have hnb34 := NB188_187.out
            have hnc34 := NB187_188.out
            have hcz35_0 : wr.cell? ⟨gb188, 0, none⟩ = some (.int .u64 x189000_1) := (blk_cell BK188.out 0).trans rfl
            have hcz35_1 : wr.cell? ⟨gb188, 1, none⟩ = some (.int .u64 x189001_1) := (blk_cell BK188.out 1).trans rfl
            have hfz35_0 := blk_frozen BK188.out 0
            have hfz35_1 := blk_frozen BK188.out 1
            go_wp2_with (first | ((with_reducible refine gate_callee (f := 17) rfl ?_); refine goesL_ (some 22) rfl rfl Try.func17 (by kernel_rfl) rfl #[.agg #[.int .u64 x189000_1, .int .u64 x189001_1], .int .i64 x0_1] rfl (by (try simp only [List.map_toArray, List.map_cons, List.map_nil]); first | done | rfl | (simp only [List.length_drop, List.length_take]; rfl)) ?_; (with_reducible refine (set_Set_With.calls k1 x189000_1 x189001_1 x0_1 t190 t191 _ A29.out).mono ?_); rintro e w36 ⟨rfl, hb⟩; refine ⟨_, rfl, ?_⟩; have n0_ := Aside0.mk (blk_below (g := gb185) (o := .cells #[.int .i64 a1_0, .int .i64 a1_1] 23 (0, 0)) (by (with_reducible repeat (first | refine blk_drewN ?_ _ | refine blk_drew ?_ | refine blk_alloc ?_ _)); exact BK185.out) hb); have n1_ := Aside0.mk (blk_below (g := gb186) (o := .cells #[.int .u64 a2_0, .int .u64 a2_1] 30 (0, 0)) (by (with_reducible repeat (first | refine blk_drewN ?_ _ | refine blk_drew ?_ | refine blk_alloc ?_ _)); exact BK186.out) hb); have n2_ := Aside0.mk (blk_below (g := gb187) (o := .cells #[.int .u64 0, .int .u64 0] 30 (0, 0)) (by (with_reducible repeat (first | refine blk_drewN ?_ _ | refine blk_drew ?_ | refine blk_alloc ?_ _)); exact BK187.out) hb); have n3_ := Aside0.mk (blk_below (g := gb188) (o := .cells #[.int .u64 x189000_1, .int .u64 x189001_1] 30 (0, 0)) (by (with_reducible repeat (first | refine blk_drewN ?_ _ | refine blk_drew ?_ | refine blk_alloc ?_ _)); exact BK188.out) hb); have n4_ := Aside0.mk (below_step (by repeat (first | (with_reducible first | exact HB.out | apply below_alloc | apply pw_below_drewN | apply below_drew1 | refine below_set ?_ GE185.out | refine below_set ?_ GE186.out | refine below_set ?_ GE187.out | refine below_set ?_ GE188.out) | exact HB.out)) hb); clear BK185; clear BK186; clear BK187; clear BK188; clear HB; have BK185 := n0_; have BK186 := n1_; have BK187 := n2_; have BK188 := n3_; have HB := n4_; clear n0_ n1_ n2_ n3_ n4_; (try clear hb); (try clear hb2); (try clear hk); (try clear hi); have hcz37_0 : w36.cell? ⟨gb188, 0, none⟩ = some (.int .u64 x189000_1) := (blk_cell BK188.out 0).trans rfl; have hcz37_1 : w36.cell? ⟨gb188, 1, none⟩ = some (.int .u64 x189001_1) := (blk_cell BK188.out 1).trans rfl; have hfz37_0 := blk_frozen BK188.out 0; have hfz37_1 := blk_frozen BK188.out 1; have hnb38 := NB186_185.out; have hnc38 := NB185_186.out; have hnb39 := NB186_187.out; have hnc39 := NB187_186.out; have hcz40_0 : w36.cell? ⟨gb186, 0, none⟩ = some (.int .u64 a2_0) := (blk_cell BK186.out 0).trans rfl; have hcz40_1 : w36.cell? ⟨gb186, 1, none⟩ = some (.int .u64 a2_1) := (blk_cell BK186.out 1).trans rfl; have hfz40_0 := blk_frozen BK186.out 0; have hfz40_1 := blk_frozen BK186.out 1) | ((with_reducible refine gate_callee (f := 15) rfl ?_); refine goesL_ (some 25) rfl rfl Try.func15 (by kernel_rfl) rfl #[.agg #[.int .u64 a2_0, .int .u64 a2_1], .int .i64 x0_1] rfl (by (try simp only [List.map_toArray, List.map_cons, List.map_nil]); first | done | rfl | (simp only [List.length_drop, List.length_take]; rfl)) ?_; (with_reducible refine (set_Set_Has.calls k1 a2_0 a2_1 x0_1 true _ A30.out).mono ?_); rintro e w41 ⟨rfl, hb⟩; refine ⟨_, rfl, ?_⟩; have n0_ := Aside0.mk (blk_below (g := gb185) (o := .cells #[.int .i64 a1_0, .int .i64 a1_1] 23 (0, 0)) (by (with_reducible repeat (first | refine blk_drewN ?_ _ | refine blk_drew ?_ | refine blk_alloc ?_ _)); refine blk_far ?_ NB185_188.out _; (with_reducible repeat (first | refine blk_drewN ?_ _ | refine blk_drew ?_ | refine blk_alloc ?_ _)); refine blk_far ?_ NB185_188.out _; (with_reducible repeat (first | refine blk_drewN ?_ _ | refine blk_drew ?_ | refine blk_alloc ?_ _)); exact BK185.out) hb); have n1_ := Aside0.mk (blk_below (g := gb186) (o := .cells #[.int .u64 a2_0, .int .u64 a2_1] 30 (0, 0)) (by (with_reducible repeat (first | refine blk_drewN ?_ _ | refine blk_drew ?_ | refine blk_alloc ?_ _)); refine blk_far ?_ NB186_188.out _; (with_reducible repeat (first | refine blk_drewN ?_ _ | refine blk_drew ?_ | refine blk_alloc ?_ _)); refine blk_far ?_ NB186_188.out _; (with_reducible repeat (first | refine blk_drewN ?_ _ | refine blk_drew ?_ | refine blk_alloc ?_ _)); exact BK186.out) hb); have n2_ := Aside0.mk (blk_below (g := gb187) (o := .cells #[.int .u64 0, .int .u64 0] 30 (0, 0)) (by (with_reducible repeat (first | refine blk_drewN ?_ _ | refine blk_drew ?_ | refine blk_alloc ?_ _)); refine blk_far ?_ NB187_188.out _; (with_reducible repeat (first | refine blk_drewN ?_ _ | refine blk_drew ?_ | refine blk_alloc ?_ _)); refine blk_far ?_ NB187_188.out _; (with_reducible repeat (first | refine blk_drewN ?_ _ | refine blk_drew ?_ | refine blk_alloc ?_ _)); exact BK187.out) hb); have n3_ := Aside0.mk (blk_below (g := gb188) (o := .cells #[.int .u64 t190, .int .u64 t191] 30 (0, 0)) (by (with_reducible repeat (first | refine blk_drewN ?_ _ | refine blk_drew ?_ | refine blk_alloc ?_ _)); refine blk_put (cs := #[.int .u64 t190, .int .u64 x189001_1]) ?_ 1 _ rfl; (with_reducible repeat (first | refine blk_drewN ?_ _ | refine blk_drew ?_ | refine blk_alloc ?_ _)); refine blk_put (cs := #[.int .u64 x189000_1, .int .u64 x189001_1]) ?_ 0 _ rfl; (with_reducible repeat (first | refine blk_drewN ?_ _ | refine blk_drew ?_ | refine blk_alloc ?_ _)); exact BK188.out) hb); have n4_ := Aside0.mk (below_step (by repeat (first | (with_reducible first | exact HB.out | apply below_alloc | apply pw_below_drewN | apply below_drew1 | refine below_set ?_ GE185.out | refine below_set ?_ GE186.out | refine below_set ?_ GE187.out | refine below_set ?_ GE188.out) | exact HB.out)) hb); clear BK185; clear BK186; clear BK187; clear BK188; clear HB; have BK185 := n0_; have BK186 := n1_; have BK187 := n2_; have BK188 := n3_; have HB := n4_; clear n0_ n1_ n2_ n3_ n4_; (try clear hb); (try clear hb2); (try clear hk); (try clear hi); have hcz42_0 : w41.cell? ⟨gb188, 0, none⟩ = some (.int .u64 t190) := (blk_cell BK188.out 0).trans rfl; have hcz42_1 : w41.cell? ⟨gb188, 1, none⟩ = some (.int .u64 t191) := (blk_cell BK188.out 1).trans rfl; have hfz42_0 := blk_frozen BK188.out 0; have hfz42_1 := blk_frozen BK188.out 1; have hnb43 := NB187_185.out; have hnc43 := NB185_187.out; have hcz44_0 : w41.cell? ⟨gb187, 0, none⟩ = some (.int .u64 0) := (blk_cell BK187.out 0).trans rfl; have hcz44_1 : w41.cell? ⟨gb187, 1, none⟩ = some (.int .u64 0) := (blk_cell BK187.out 1).trans rfl; have hfz44_0 := blk_frozen BK187.out 0; have hfz44_1 := blk_frozen BK187.out 1))
            refine bodyPost_ret (results_cell_row rfl _ _ gb187 30 #[.int .u64 t190, .int .u64 t191] (0, 0) _ rfl (by (with_reducible repeat (first | refine blk_drewN ?_ _ | refine blk_drew ?_ | refine blk_alloc ?_ _)); refine blk_put (cs := #[.int .u64 t190, .int .u64 0]) ?_ 1 _ rfl; (with_reducible repeat (first | refine blk_drewN ?_ _ | refine blk_drew ?_ | refine blk_alloc ?_ _)); refine blk_put (cs := #[.int .u64 0, .int .u64 0]) ?_ 0 _ rfl; (with_reducible repeat (first | refine blk_drewN ?_ _ | refine blk_drew ?_ | refine blk_alloc ?_ _)); exact BK187.out) Try.underlying30 rfl (by kernel_rfl)) rfl ?_
            exact ⟨by first | rfl | (simp [errW_none, errW_some] <;> rfl) | (simp [*, errW_none, errW_some] <;> rfl) | (simp [*, errW_none, errW_some]; generalize ByteArray.toList _ = q_; cases q_ <;> rfl), by repeat (first | (with_reducible first | exact HB.out | apply below_alloc | apply pw_below_drewN | apply below_drew1 | refine below_set ?_ GE185.out | refine below_set ?_ GE186.out | refine below_set ?_ GE187.out | refine below_set ?_ GE188.out) | exact HB.out)⟩
          · replace c31 := Bool.eq_false_iff.mpr c31
            subst c31
            have H1 : ((step_Dir_From.f a1_0 a1_1 x0_1).bind fun t193 => (ray_Way.l0 k1 t193 a1_0 a1_1 a2_0 a2_1 t190 t191)) = some (r1, r2) := by rw [if_neg (show ¬ (false = true) by decide)] at H; exact H
            clear H
            have H := H1
            clear H1
            replace H := Option.bind_eq_some_iff.mp H
            obtain ⟨t193, A450, H⟩ := H
            replace H : (ray_Way.l0 k1 t193 a1_0 a1_1 a2_0 a2_1 t190 t191) = some (r1, r2) := H
            have A45 := Aside0.mk A450
            clear A450
            have H' := Aside0.mk H
            clear H
            have hnb46 := NB188_185.out
            have hnc46 := NB185_188.out
            have hnb47 := NB188_186.out
            have hnc47 := NB186_188.out
            have hnb48 := NB188_187.out
            have hnc48 := NB187_188.out
            have hcz49_0 : wr.cell? ⟨gb188, 0, none⟩ = some (.int .u64 x189000_1) := (blk_cell BK188.out 0).trans rfl
            have hcz49_1 : wr.cell? ⟨gb188, 1, none⟩ = some (.int .u64 x189001_1) := (blk_cell BK188.out 1).trans rfl
            have hfz49_0 := blk_frozen BK188.out 0
            have hfz49_1 := blk_frozen BK188.out 1
            go_wp2_with (first | ((with_reducible refine gate_callee (f := 17) rfl ?_); refine goesL_ (some 22) rfl rfl Try.func17 (by kernel_rfl) rfl #[.agg #[.int .u64 x189000_1, .int .u64 x189001_1], .int .i64 x0_1] rfl (by (try simp only [List.map_toArray, List.map_cons, List.map_nil]); first | done | rfl | (simp only [List.length_drop, List.length_take]; rfl)) ?_; (with_reducible refine (set_Set_With.calls k1 x189000_1 x189001_1 x0_1 t190 t191 _ A29.out).mono ?_); rintro e w50 ⟨rfl, hb⟩; refine ⟨_, rfl, ?_⟩; have n0_ := Aside0.mk (blk_below (g := gb185) (o := .cells #[.int .i64 a1_0, .int .i64 a1_1] 23 (0, 0)) (by (with_reducible repeat (first | refine blk_drewN ?_ _ | refine blk_drew ?_ | refine blk_alloc ?_ _)); exact BK185.out) hb); have n1_ := Aside0.mk (blk_below (g := gb186) (o := .cells #[.int .u64 a2_0, .int .u64 a2_1] 30 (0, 0)) (by (with_reducible repeat (first | refine blk_drewN ?_ _ | refine blk_drew ?_ | refine blk_alloc ?_ _)); exact BK186.out) hb); have n2_ := Aside0.mk (blk_below (g := gb187) (o := .cells #[.int .u64 0, .int .u64 0] 30 (0, 0)) (by (with_reducible repeat (first | refine blk_drewN ?_ _ | refine blk_drew ?_ | refine blk_alloc ?_ _)); exact BK187.out) hb); have n3_ := Aside0.mk (blk_below (g := gb188) (o := .cells #[.int .u64 x189000_1, .int .u64 x189001_1] 30 (0, 0)) (by (with_reducible repeat (first | refine blk_drewN ?_ _ | refine blk_drew ?_ | refine blk_alloc ?_ _)); exact BK188.out) hb); have n4_ := Aside0.mk (below_step (by repeat (first | (with_reducible first | exact HB.out | apply below_alloc | apply pw_below_drewN | apply below_drew1 | refine below_set ?_ GE185.out | refine below_set ?_ GE186.out | refine below_set ?_ GE187.out | refine below_set ?_ GE188.out) | exact HB.out)) hb); clear BK185; clear BK186; clear BK187; clear BK188; clear HB; have BK185 := n0_; have BK186 := n1_; have BK187 := n2_; have BK188 := n3_; have HB := n4_; clear n0_ n1_ n2_ n3_ n4_; (try clear hb); (try clear hb2); (try clear hk); (try clear hi); have hcz51_0 : w50.cell? ⟨gb188, 0, none⟩ = some (.int .u64 x189000_1) := (blk_cell BK188.out 0).trans rfl; have hcz51_1 : w50.cell? ⟨gb188, 1, none⟩ = some (.int .u64 x189001_1) := (blk_cell BK188.out 1).trans rfl; have hfz51_0 := blk_frozen BK188.out 0; have hfz51_1 := blk_frozen BK188.out 1; have hnb52 := NB186_185.out; have hnc52 := NB185_186.out; have hnb53 := NB186_187.out; have hnc53 := NB187_186.out; have hcz54_0 : w50.cell? ⟨gb186, 0, none⟩ = some (.int .u64 a2_0) := (blk_cell BK186.out 0).trans rfl; have hcz54_1 : w50.cell? ⟨gb186, 1, none⟩ = some (.int .u64 a2_1) := (blk_cell BK186.out 1).trans rfl; have hfz54_0 := blk_frozen BK186.out 0; have hfz54_1 := blk_frozen BK186.out 1) | ((with_reducible refine gate_callee (f := 15) rfl ?_); refine goesL_ (some 25) rfl rfl Try.func15 (by kernel_rfl) rfl #[.agg #[.int .u64 a2_0, .int .u64 a2_1], .int .i64 x0_1] rfl (by (try simp only [List.map_toArray, List.map_cons, List.map_nil]); first | done | rfl | (simp only [List.length_drop, List.length_take]; rfl)) ?_; (with_reducible refine (set_Set_Has.calls k1 a2_0 a2_1 x0_1 false _ A30.out).mono ?_); rintro e w55 ⟨rfl, hb⟩; refine ⟨_, rfl, ?_⟩; have n0_ := Aside0.mk (blk_below (g := gb185) (o := .cells #[.int .i64 a1_0, .int .i64 a1_1] 23 (0, 0)) (by (with_reducible repeat (first | refine blk_drewN ?_ _ | refine blk_drew ?_ | refine blk_alloc ?_ _)); refine blk_far ?_ NB185_188.out _; (with_reducible repeat (first | refine blk_drewN ?_ _ | refine blk_drew ?_ | refine blk_alloc ?_ _)); refine blk_far ?_ NB185_188.out _; (with_reducible repeat (first | refine blk_drewN ?_ _ | refine blk_drew ?_ | refine blk_alloc ?_ _)); exact BK185.out) hb); have n1_ := Aside0.mk (blk_below (g := gb186) (o := .cells #[.int .u64 a2_0, .int .u64 a2_1] 30 (0, 0)) (by (with_reducible repeat (first | refine blk_drewN ?_ _ | refine blk_drew ?_ | refine blk_alloc ?_ _)); refine blk_far ?_ NB186_188.out _; (with_reducible repeat (first | refine blk_drewN ?_ _ | refine blk_drew ?_ | refine blk_alloc ?_ _)); refine blk_far ?_ NB186_188.out _; (with_reducible repeat (first | refine blk_drewN ?_ _ | refine blk_drew ?_ | refine blk_alloc ?_ _)); exact BK186.out) hb); have n2_ := Aside0.mk (blk_below (g := gb187) (o := .cells #[.int .u64 0, .int .u64 0] 30 (0, 0)) (by (with_reducible repeat (first | refine blk_drewN ?_ _ | refine blk_drew ?_ | refine blk_alloc ?_ _)); refine blk_far ?_ NB187_188.out _; (with_reducible repeat (first | refine blk_drewN ?_ _ | refine blk_drew ?_ | refine blk_alloc ?_ _)); refine blk_far ?_ NB187_188.out _; (with_reducible repeat (first | refine blk_drewN ?_ _ | refine blk_drew ?_ | refine blk_alloc ?_ _)); exact BK187.out) hb); have n3_ := Aside0.mk (blk_below (g := gb188) (o := .cells #[.int .u64 t190, .int .u64 t191] 30 (0, 0)) (by (with_reducible repeat (first | refine blk_drewN ?_ _ | refine blk_drew ?_ | refine blk_alloc ?_ _)); refine blk_put (cs := #[.int .u64 t190, .int .u64 x189001_1]) ?_ 1 _ rfl; (with_reducible repeat (first | refine blk_drewN ?_ _ | refine blk_drew ?_ | refine blk_alloc ?_ _)); refine blk_put (cs := #[.int .u64 x189000_1, .int .u64 x189001_1]) ?_ 0 _ rfl; (with_reducible repeat (first | refine blk_drewN ?_ _ | refine blk_drew ?_ | refine blk_alloc ?_ _)); exact BK188.out) hb); have n4_ := Aside0.mk (below_step (by repeat (first | (with_reducible first | exact HB.out | apply below_alloc | apply pw_below_drewN | apply below_drew1 | refine below_set ?_ GE185.out | refine below_set ?_ GE186.out | refine below_set ?_ GE187.out | refine below_set ?_ GE188.out) | exact HB.out)) hb); clear BK185; clear BK186; clear BK187; clear BK188; clear HB; have BK185 := n0_; have BK186 := n1_; have BK187 := n2_; have BK188 := n3_; have HB := n4_; clear n0_ n1_ n2_ n3_ n4_; (try clear hb); (try clear hb2); (try clear hk); (try clear hi); have hnb56 := NB185_187.out; have hnc56 := NB187_185.out; have hcz57_0 : w55.cell? ⟨gb185, 0, none⟩ = some (.int .i64 a1_0) := (blk_cell BK185.out 0).trans rfl; have hcz57_1 : w55.cell? ⟨gb185, 1, none⟩ = some (.int .i64 a1_1) := (blk_cell BK185.out 1).trans rfl; have hfz57_0 := blk_frozen BK185.out 0; have hfz57_1 := blk_frozen BK185.out 1) | ((with_reducible refine gate_callee (f := 10) rfl ?_); refine goesL_ (some 19) rfl rfl Try.func10 (by kernel_rfl) rfl #[.agg #[.int .i64 a1_0, .int .i64 a1_1], .int .i64 x0_1] rfl (by (try simp only [List.map_toArray, List.map_cons, List.map_nil]); first | done | rfl | (simp only [List.length_drop, List.length_take]; rfl)) ?_; (with_reducible refine (step_Dir_From.calls a1_0 a1_1 x0_1 t193 _ A45.out).mono ?_); rintro e w58 ⟨rfl, hb⟩; refine ⟨_, rfl, ?_⟩; have n0_ := Aside0.mk (blk_below (g := gb185) (o := .cells #[.int .i64 a1_0, .int .i64 a1_1] 23 (0, 0)) (by (with_reducible repeat (first | refine blk_drewN ?_ _ | refine blk_drew ?_ | refine blk_alloc ?_ _)); exact BK185.out) hb); have n1_ := Aside0.mk (blk_below (g := gb186) (o := .cells #[.int .u64 a2_0, .int .u64 a2_1] 30 (0, 0)) (by (with_reducible repeat (first | refine blk_drewN ?_ _ | refine blk_drew ?_ | refine blk_alloc ?_ _)); exact BK186.out) hb); have n2_ := Aside0.mk (blk_below (g := gb187) (o := .cells #[.int .u64 0, .int .u64 0] 30 (0, 0)) (by (with_reducible repeat (first | refine blk_drewN ?_ _ | refine blk_drew ?_ | refine blk_alloc ?_ _)); exact BK187.out) hb); have n3_ := Aside0.mk (blk_below (g := gb188) (o := .cells #[.int .u64 t190, .int .u64 t191] 30 (0, 0)) (by (with_reducible repeat (first | refine blk_drewN ?_ _ | refine blk_drew ?_ | refine blk_alloc ?_ _)); exact BK188.out) hb); have n4_ := Aside0.mk (below_step (by repeat (first | (with_reducible first | exact HB.out | apply below_alloc | apply pw_below_drewN | apply below_drew1 | refine below_set ?_ GE185.out | refine below_set ?_ GE186.out | refine below_set ?_ GE187.out | refine below_set ?_ GE188.out) | exact HB.out)) hb); clear BK185; clear BK186; clear BK187; clear BK188; clear HB; have BK185 := n0_; have BK186 := n1_; have BK187 := n2_; have BK188 := n3_; have HB := n4_; clear n0_ n1_ n2_ n3_ n4_; (try clear hb); (try clear hb2); (try clear hk); (try clear hi)))
            go_roundg k1
            case measure => have := HK1.out; omega
            case rel => exact ⟨(t193), (t190), (t191), (by first | rfl | (simp; done) | (simp [*]; done)), H', ⟨by have := HK1.out; omega⟩, ⟨by (with_reducible repeat (first | refine blk_drewN ?_ _ | refine blk_drew ?_ | refine blk_alloc ?_ _)); exact BK185.out⟩, ⟨by (with_reducible repeat (first | refine blk_drewN ?_ _ | refine blk_drew ?_ | refine blk_alloc ?_ _)); exact BK186.out⟩, ⟨by (with_reducible repeat (first | refine blk_drewN ?_ _ | refine blk_drew ?_ | refine blk_alloc ?_ _)); exact BK187.out⟩, ⟨by (with_reducible repeat (first | refine blk_drewN ?_ _ | refine blk_drew ?_ | refine blk_alloc ?_ _)); exact BK188.out⟩, ⟨by repeat (first | (with_reducible first | exact HB.out | apply below_alloc | apply pw_below_drewN | apply below_drew1 | refine below_set ?_ GE185.out | refine below_set ?_ GE186.out | refine below_set ?_ GE187.out | refine below_set ?_ GE188.out) | exact HB.out)⟩⟩
        · rw [if_neg c28] at H
          have c28b0 : decide (0 ≤ x0_1) = false := decide_eq_false c28
          clear c28
          simp only [Option.some.injEq, Prod.mk.injEq] at H
          obtain ⟨rfl, rfl⟩ := H
          have hnb59 := NB188_185.out
          have hnc59 := NB185_188.out
          have hnb60 := NB188_186.out
          have hnc60 := NB186_188.out
          have hnb61 := NB188_187.out
          have hnc61 := NB187_188.out
          have hcz62_0 : wr.cell? ⟨gb188, 0, none⟩ = some (.int .u64 x189000_1) := (blk_cell BK188.out 0).trans rfl
          have hcz62_1 : wr.cell? ⟨gb188, 1, none⟩ = some (.int .u64 x189001_1) := (blk_cell BK188.out 1).trans rfl
          have hfz62_0 := blk_frozen BK188.out 0
          have hfz62_1 := blk_frozen BK188.out 1
          have hnb63 := NB187_185.out
          have hnc63 := NB185_187.out
          have hnb64 := NB187_186.out
          have hnc64 := NB186_187.out
          have hcz65_0 : wr.cell? ⟨gb187, 0, none⟩ = some (.int .u64 0) := (blk_cell BK187.out 0).trans rfl
          have hcz65_1 : wr.cell? ⟨gb187, 1, none⟩ = some (.int .u64 0) := (blk_cell BK187.out 1).trans rfl
          have hfz65_0 := blk_frozen BK187.out 0
          have hfz65_1 := blk_frozen BK187.out 1
          go_wp2
          refine bodyPost_ret (results_cell_row rfl _ _ gb187 30 #[.int .u64 x189000_1, .int .u64 x189001_1] (0, 0) _ rfl (by (with_reducible repeat (first | refine blk_drewN ?_ _ | refine blk_drew ?_ | refine blk_alloc ?_ _)); refine blk_put (cs := #[.int .u64 x189000_1, .int .u64 0]) ?_ 1 _ rfl; (with_reducible repeat (first | refine blk_drewN ?_ _ | refine blk_drew ?_ | refine blk_alloc ?_ _)); refine blk_put (cs := #[.int .u64 0, .int .u64 0]) ?_ 0 _ rfl; (with_reducible repeat (first | refine blk_drewN ?_ _ | refine blk_drew ?_ | refine blk_alloc ?_ _)); exact BK187.out) Try.underlying30 rfl (by kernel_rfl)) rfl ?_
          exact ⟨by first | rfl | (simp [errW_none, errW_some] <;> rfl) | (simp [*, errW_none, errW_some] <;> rfl) | (simp [*, errW_none, errW_some]; generalize ByteArray.toList _ = q_; cases q_ <;> rfl), by repeat (first | (with_reducible first | exact HB.out | apply below_alloc | apply pw_below_drewN | apply below_drew1 | refine below_set ?_ GE185.out | refine below_set ?_ GE186.out | refine below_set ?_ GE187.out | refine below_set ?_ GE188.out) | exact HB.out)⟩

end Go.Proofs.Ytmoeodcmfjnihaa.Pb
