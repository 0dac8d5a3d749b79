/- What the functions compute, and that they do. -/
import Derived.Test.YtgeignldbgncbaaGreatDoorBF0
import Derived.Test.YtgeignldbgncbaaGreatDoorBF1
import Derived.Test.YtgeignldbgncbaaGreatDoorKL
set_option maxRecDepth 1000000
set_option linter.unusedVariables false
namespace Go.AM.T
open Go Go.AM Go.Proofs
def f_step_Dirs_j21 (n : Nat) (q : Int → Option ((Unit × Unit × (List (Int × Int × Unit))) ⊕ (Unit × Unit × Unit))) (h16 : List (Int × Int × Unit)) : Option (Unit × List (Int × Int × Unit)) :=
 some ((), h16)
def f_step_Dirs_j21b (n : Nat) (q : Int → Option ((Unit × Unit × (List (Int × Int × Unit))) ⊕ (Unit × Unit × Unit))) (u_ : Unit) : Option (Unit × Unit) :=
 some ((), ())
def f_step_Dirs_s (n : Nat) (q : Int → Option ((Unit × Unit × (List (Int × Int × Unit))) ⊕ (Unit × Unit × Unit))) (kind0 : Int) : Option ((Unit × Unit × (List (Int × Int × Unit))) ⊕ (Unit × Unit × Unit)) :=
 Br (eq kind0 1)
  (ob (f_step_Dirs_j21 n q [(0, (-1), ())]) fun y17 =>
  some (.inl (y17.1, (), y17.2)))
  (Br (eq kind0 3)
   (ob (f_step_Dirs_j21 n q [((-1), (-2), ()), (1, (-2), ())]) fun y18 =>
   some (.inl (y18.1, (), y18.2)))
   (Br (eq kind0 4)
    (ob (f_step_Dirs_j21 n q [((-1), (-1), ()), (0, (-1), ()), (1, (-1), ()), ((-1), 1, ()), (1, 1, ())]) fun y19 =>
    some (.inl (y19.1, (), y19.2)))
    (Br (eq kind0 5)
     (Br (eq kind0 5)
      (ob (f_step_Dirs_j21 n q [((-1), (-1), ()), (0, (-1), ()), (1, (-1), ()), ((-1), 0, ()), (1, 0, ()), (0, 1, ())]) fun y20 =>
      some (.inl (y20.1, (), y20.2)))
      (Br (eq kind0 8)
       (ob (q 5) fun y21 =>
       sm y21 (fun y22 =>
        Br (room ((y22.2.2.length : Int) + 2))
         (ob (f_step_Dirs_j21 n q (y22.2.2.append [((-1), 1, ()), (1, 1, ())])) fun y24 =>
         some (.inl (y24.1, (), y24.2)))
         (none))
        (fun y23 =>
        ob (f_step_Dirs_j21 n q [((-1), 1, ()), (1, 1, ())]) fun y25 =>
        some (.inl (y25.1, (), y25.2))))
       (Br (eq kind0 14)
        (ob (f_step_Dirs_j21 n q [(0, (-1), ()), ((-1), 0, ()), (1, 0, ()), (0, 1, ())]) fun y26 =>
        some (.inl (y26.1, (), y26.2)))
        (Br (eq kind0 15)
         (ob (f_step_Dirs_j21 n q [((-1), (-1), ()), (1, (-1), ()), ((-1), 1, ()), (1, 1, ())]) fun y27 =>
         some (.inl (y27.1, (), y27.2)))
         (ob (f_step_Dirs_j21b n q ()) fun y28 =>
         some (.inr (y28.1, (), ())))))))
     (Br (eq kind0 9)
      (Br (eq kind0 9)
       (ob (f_step_Dirs_j21 n q [((-1), (-1), ()), (0, (-1), ()), (1, (-1), ()), ((-1), 0, ()), (1, 0, ()), (0, 1, ())]) fun y29 =>
       some (.inl (y29.1, (), y29.2)))
       (Br (eq kind0 8)
        (ob (q 5) fun y30 =>
        sm y30 (fun y31 =>
         Br (room ((y31.2.2.length : Int) + 2))
          (ob (f_step_Dirs_j21 n q (y31.2.2.append [((-1), 1, ()), (1, 1, ())])) fun y33 =>
          some (.inl (y33.1, (), y33.2)))
          (none))
         (fun y32 =>
         ob (f_step_Dirs_j21 n q [((-1), 1, ()), (1, 1, ())]) fun y34 =>
         some (.inl (y34.1, (), y34.2))))
        (Br (eq kind0 14)
         (ob (f_step_Dirs_j21 n q [(0, (-1), ()), ((-1), 0, ()), (1, 0, ()), (0, 1, ())]) fun y35 =>
         some (.inl (y35.1, (), y35.2)))
         (Br (eq kind0 15)
          (ob (f_step_Dirs_j21 n q [((-1), (-1), ()), (1, (-1), ()), ((-1), 1, ()), (1, 1, ())]) fun y36 =>
          some (.inl (y36.1, (), y36.2)))
          (ob (f_step_Dirs_j21b n q ()) fun y37 =>
          some (.inr (y37.1, (), ())))))))
      (Br (eq kind0 10)
       (Br (eq kind0 10)
        (ob (f_step_Dirs_j21 n q [((-1), (-1), ()), (0, (-1), ()), (1, (-1), ()), ((-1), 0, ()), (1, 0, ()), (0, 1, ())]) fun y38 =>
        some (.inl (y38.1, (), y38.2)))
        (Br (eq kind0 8)
         (ob (q 5) fun y39 =>
         sm y39 (fun y40 =>
          Br (room ((y40.2.2.length : Int) + 2))
           (ob (f_step_Dirs_j21 n q (y40.2.2.append [((-1), 1, ()), (1, 1, ())])) fun y42 =>
           some (.inl (y42.1, (), y42.2)))
           (none))
          (fun y41 =>
          ob (f_step_Dirs_j21 n q [((-1), 1, ()), (1, 1, ())]) fun y43 =>
          some (.inl (y43.1, (), y43.2))))
         (Br (eq kind0 14)
          (ob (f_step_Dirs_j21 n q [(0, (-1), ()), ((-1), 0, ()), (1, 0, ()), (0, 1, ())]) fun y44 =>
          some (.inl (y44.1, (), y44.2)))
          (Br (eq kind0 15)
           (ob (f_step_Dirs_j21 n q [((-1), (-1), ()), (1, (-1), ()), ((-1), 1, ()), (1, 1, ())]) fun y45 =>
           some (.inl (y45.1, (), y45.2)))
           (ob (f_step_Dirs_j21b n q ()) fun y46 =>
           some (.inr (y46.1, (), ())))))))
       (Br (eq kind0 11)
        (Br (eq kind0 11)
         (ob (f_step_Dirs_j21 n q [((-1), (-1), ()), (0, (-1), ()), (1, (-1), ()), ((-1), 0, ()), (1, 0, ()), (0, 1, ())]) fun y47 =>
         some (.inl (y47.1, (), y47.2)))
         (Br (eq kind0 8)
          (ob (q 5) fun y48 =>
          sm y48 (fun y49 =>
           Br (room ((y49.2.2.length : Int) + 2))
            (ob (f_step_Dirs_j21 n q (y49.2.2.append [((-1), 1, ()), (1, 1, ())])) fun y51 =>
            some (.inl (y51.1, (), y51.2)))
            (none))
           (fun y50 =>
           ob (f_step_Dirs_j21 n q [((-1), 1, ()), (1, 1, ())]) fun y52 =>
           some (.inl (y52.1, (), y52.2))))
          (Br (eq kind0 14)
           (ob (f_step_Dirs_j21 n q [(0, (-1), ()), ((-1), 0, ()), (1, 0, ()), (0, 1, ())]) fun y53 =>
           some (.inl (y53.1, (), y53.2)))
           (Br (eq kind0 15)
            (ob (f_step_Dirs_j21 n q [((-1), (-1), ()), (1, (-1), ()), ((-1), 1, ()), (1, 1, ())]) fun y54 =>
            some (.inl (y54.1, (), y54.2)))
            (ob (f_step_Dirs_j21b n q ()) fun y55 =>
            some (.inr (y55.1, (), ())))))))
        (Br (eq kind0 12)
         (ob (f_step_Dirs_j21 n q [((-1), (-1), ()), (0, (-1), ()), (1, (-1), ()), ((-1), 0, ()), (1, 0, ()), (0, 1, ())]) fun y56 =>
         some (.inl (y56.1, (), y56.2)))
         (Br (eq kind0 8)
          (ob (q 5) fun y57 =>
          sm y57 (fun y58 =>
           Br (room ((y58.2.2.length : Int) + 2))
            (ob (f_step_Dirs_j21 n q (y58.2.2.append [((-1), 1, ()), (1, 1, ())])) fun y60 =>
            some (.inl (y60.1, (), y60.2)))
            (none))
           (fun y59 =>
           ob (f_step_Dirs_j21 n q [((-1), 1, ()), (1, 1, ())]) fun y61 =>
           some (.inl (y61.1, (), y61.2))))
          (Br (eq kind0 14)
           (ob (f_step_Dirs_j21 n q [(0, (-1), ()), ((-1), 0, ()), (1, 0, ()), (0, 1, ())]) fun y62 =>
           some (.inl (y62.1, (), y62.2)))
           (Br (eq kind0 15)
            (ob (f_step_Dirs_j21 n q [((-1), (-1), ()), (1, (-1), ()), ((-1), 1, ()), (1, 1, ())]) fun y63 =>
            some (.inl (y63.1, (), y63.2)))
            (ob (f_step_Dirs_j21b n q ()) fun y64 =>
            some (.inr (y64.1, (), ())))))))))))))
def f_step_Dirs_i (n : Nat) : Nat → Int → Option ((Unit × Unit × (List (Int × Int × Unit))) ⊕ (Unit × Unit × Unit))
 | 0, _ => none
 | m + 1, kind0 => f_step_Dirs_s n (f_step_Dirs_i n m) kind0
def f_step_Dirs (n : Nat) := f_step_Dirs_i n n
def f_step_Dirs_r (n m : Nat) : Cf := ⟨.t (.i .i64) [], .e, [⟨.t (.r .s) [.w 0], .e, .w 210 (.p (.i .i64) (.p (.i .i64) (.u))) true⟩, ⟨.t (.r .s) [.ns], .e, .e⟩], fun x => f_step_Dirs_i n m x.1⟩
def f_step_Dirs_c (n : Nat) : Cf := f_step_Dirs_r n n
def f_step_Dirs_j21_c (n m : Nat) : Cs := ⟨0, [], ⟨[3], .t (.r .s) [.w 0], .w 210 (.p (.i .i64) (.p (.i .i64) (.u))) true⟩, [⟨1, ⟨[2], .t (.r .s) [.w 0], .w 210 (.p (.i .i64) (.p (.i .i64) (.u))) true⟩⟩], fun v => f_step_Dirs_j21 n (f_step_Dirs_i n m) v.2⟩
def f_step_Dirs_j21b_c (n m : Nat) : Cs := ⟨0, [], ⟨[3], .t (.r .s) [.ns], .e⟩, [⟨1, ⟨[2], .t (.r .s) [.ns], .e⟩⟩], fun v => f_step_Dirs_j21b n (f_step_Dirs_i n m) ()⟩
def f_step_Dirs_e (n m : Nat) : Env := en [(172, f_step_Dirs_r n m)] [] [(21, f_step_Dirs_j21_c n m), (21, f_step_Dirs_j21b_c n m)] []
theorem f_step_Dirs_a (X : Cx Tryz.prog K Gl) (n m : Nat) (H : FOk Tryz.prog K Gl 172 (f_step_Dirs_r n m)) : FAll Tryz.prog K Gl [(172, f_step_Dirs_r n m)] := (fcons H fnil)
theorem f_step_Dirs_j21_k (n m : Nat) (v : (f_step_Dirs_j21_c n m).s.X) : run (f_step_Dirs_e n m) (jbody 21 (bodyOf Tryz.f172)) ((f_step_Dirs_j21_c n m).s.st Tryz.f172.ntmps v) (decS 0 (f_step_Dirs_j21_c n m).x) = (f_step_Dirs_j21_c n m).f v := by kernel_rfl
theorem f_step_Dirs_j21_o (X : Cx Tryz.prog K Gl) (n m : Nat) (H : FOk Tryz.prog K Gl 172 (f_step_Dirs_r n m)) : SO Tryz.prog K Gl Tryz.f172.ntmps 0 (jbody 21 (bodyOf Tryz.f172)) (f_step_Dirs_j21_c n m) := join_ok (E := f_step_Dirs_e n m) (os := []) X (tok _ _ _ _) rfl (f_step_Dirs_a X n m H) snil (by kernel_rfl) rfl (f_step_Dirs_j21_k n m)
theorem f_step_Dirs_j21b_k (n m : Nat) (v : (f_step_Dirs_j21b_c n m).s.X) : run (f_step_Dirs_e n m) (jbody 21 (bodyOf Tryz.f172)) ((f_step_Dirs_j21b_c n m).s.st Tryz.f172.ntmps v) (decS 0 (f_step_Dirs_j21b_c n m).x) = (f_step_Dirs_j21b_c n m).f v := by kernel_rfl
theorem f_step_Dirs_j21b_o (X : Cx Tryz.prog K Gl) (n m : Nat) (H : FOk Tryz.prog K Gl 172 (f_step_Dirs_r n m)) : SO Tryz.prog K Gl Tryz.f172.ntmps 0 (jbody 21 (bodyOf Tryz.f172)) (f_step_Dirs_j21b_c n m) := join_ok (E := f_step_Dirs_e n m) (os := []) X (tok _ _ _ _) rfl (f_step_Dirs_a X n m H) snil (by kernel_rfl) rfl (f_step_Dirs_j21b_k n m)
theorem f_step_Dirs_k (n m : Nat) (x : (f_step_Dirs_r n (m + 1)).a.X × (f_step_Dirs_r n (m + 1)).b.X) : run (f_step_Dirs_e n m) (bodyOf Tryz.f172) (entry Tryz.f172.ntmps ((f_step_Dirs_r n (m + 1)).a.enc x.1) ((f_step_Dirs_r n (m + 1)).b.enc x.2)) (kfin (f_step_Dirs_e n m) Tryz.f172 (f_step_Dirs_r n (m + 1)) (f_step_Dirs_r n (m + 1)).b.n) = (f_step_Dirs_r n (m + 1)).f x := by kernel_rfl
theorem f_step_Dirs_ok (X : Cx Tryz.prog K Gl) (n : Nat) : FOk Tryz.prog K Gl 172 (f_step_Dirs_c n) := rec_ok (d := f_step_Dirs_r n) (n := n) (fun _ _ h => by cases h) (fun m H => func_ok (E := f_step_Dirs_e n m) (fn := Tryz.f172) (cf := (f_step_Dirs_r n (m + 1))) (os := [(jbody 21 (bodyOf Tryz.f172), f_step_Dirs_j21_c n m), (jbody 21 (bodyOf Tryz.f172), f_step_Dirs_j21b_c n m)]) X (tok _ _ _ _) rfl (f_step_Dirs_a X n m H) (scons (f_step_Dirs_j21_o X n m H) (scons (f_step_Dirs_j21b_o X n m H) snil)) (by kernel_rfl) Tryz.func172 (by kernel_rfl) (f_step_Dirs_k n m)) rfl
def f_step_Dir_Turn (d0 : Int × Int × Unit) (side1 : Int) : Option ((Int × Int × Unit) × Unit × Unit) :=
 Br (eq side1 1)
  (some ((ws .i64 0 d0.1, ws .i64 0 d0.2.1, ()), (), ()))
  (some (d0, (), ()))
def f_step_Dir_Turn_c (n : Nat) : Cf := ⟨.c (.t (.p (.i .i64) (.p (.i .i64) (.u))) []) (.t (.i .i64) []), .e, [⟨.t (.p (.i .i64) (.p (.i .i64) (.u))) [], .e, .e⟩], fun x => f_step_Dir_Turn x.1.1 x.1.2⟩
def f_step_Dir_Turn_e (n : Nat) : Env := en [] [] [] []
theorem f_step_Dir_Turn_a (X : Cx Tryz.prog K Gl) (n : Nat) : FAll Tryz.prog K Gl [] := fnil
theorem f_step_Dir_Turn_k (n : Nat) (x : (f_step_Dir_Turn_c n).a.X × (f_step_Dir_Turn_c n).b.X) : run (f_step_Dir_Turn_e n) (bodyOf Tryz.f171) (entry Tryz.f171.ntmps ((f_step_Dir_Turn_c n).a.enc x.1) ((f_step_Dir_Turn_c n).b.enc x.2)) (kfin (f_step_Dir_Turn_e n) Tryz.f171 (f_step_Dir_Turn_c n) (f_step_Dir_Turn_c n).b.n) = (f_step_Dir_Turn_c n).f x := by kernel_rfl
theorem f_step_Dir_Turn_ok (X : Cx Tryz.prog K Gl) (n : Nat) : FOk Tryz.prog K Gl 171 (f_step_Dir_Turn_c n) := func_ok (E := f_step_Dir_Turn_e n) (fn := Tryz.f171) (cf := (f_step_Dir_Turn_c n)) (os := []) X (tok _ _ _ _) rfl (f_step_Dir_Turn_a X n) snil (by kernel_rfl) Tryz.func171 (by kernel_rfl) (f_step_Dir_Turn_k n)
def f_set_File (q0 : Int) : Int × Unit × Unit :=
 (qu .i64 q0 9, (), ())
def f_set_File_c (n : Nat) : Cf := ⟨.t (.i .i64) [], .e, [⟨.t (.i .i64) [], .e, .e⟩], fun x => some (f_set_File x.1)⟩
def f_set_File_e (n : Nat) : Env := en [] [] [] []
theorem f_set_File_a (X : Cx Tryz.prog K Gl) (n : Nat) : FAll Tryz.prog K Gl [] := fnil
theorem f_set_File_k (n : Nat) (x : (f_set_File_c n).a.X × (f_set_File_c n).b.X) : run (f_set_File_e n) (bodyOf Tryz.f92) (entry Tryz.f92.ntmps ((f_set_File_c n).a.enc x.1) ((f_set_File_c n).b.enc x.2)) (kfin (f_set_File_e n) Tryz.f92 (f_set_File_c n) (f_set_File_c n).b.n) = (f_set_File_c n).f x := by kernel_rfl
theorem f_set_File_ok (X : Cx Tryz.prog K Gl) (n : Nat) : FOk Tryz.prog K Gl 92 (f_set_File_c n) := func_ok (E := f_set_File_e n) (fn := Tryz.f92) (cf := (f_set_File_c n)) (os := []) X (tok _ _ _ _) rfl (f_set_File_a X n) snil (by kernel_rfl) Tryz.func92 (by kernel_rfl) (f_set_File_k n)
def f_step_Dir_From (d0 : Int × Int × Unit) (q1 : Int) : Option (Int × Unit × Unit) :=
 Br (lt q1 0)
  (some ((-1), (), ()))
  (Br (le 81 q1)
   (some ((-1), (), ()))
   (Br (lt d0.1 (-8))
    (some ((-1), (), ()))
    (Br (lt 8 d0.1)
     (some ((-1), (), ()))
     (Br (lt d0.2.1 (-8))
      (some ((-1), (), ()))
      (Br (lt 8 d0.2.1)
       (some ((-1), (), ()))
       (ob (f_set_Square (wa .i64 (f_set_File q1).1 d0.1) (wa .i64 (f_set_Rank q1).1 d0.2.1)) fun y1 =>
       some (y1.1, (), ())))))))
def f_step_Dir_From_c (n : Nat) : Cf := ⟨.c (.t (.p (.i .i64) (.p (.i .i64) (.u))) []) (.t (.i .i64) []), .e, [⟨.t (.i .i64) [], .e, .e⟩], fun x => f_step_Dir_From x.1.1 x.1.2⟩
def f_step_Dir_From_e (n : Nat) : Env := en [(92, f_set_File_c n), (93, f_set_Rank_c n), (41, f_set_Square_c n)] [] [] []
theorem f_step_Dir_From_a (X : Cx Tryz.prog K Gl) (n : Nat) : FAll Tryz.prog K Gl [(92, f_set_File_c n), (93, f_set_Rank_c n), (41, f_set_Square_c n)] := (fcons (f_set_File_ok X n) (fcons (f_set_Rank_ok X n) (fcons (f_set_Square_ok X n) fnil)))
theorem f_step_Dir_From_k (n : Nat) (x : (f_step_Dir_From_c n).a.X × (f_step_Dir_From_c n).b.X) : run (f_step_Dir_From_e n) (bodyOf Tryz.f173) (entry Tryz.f173.ntmps ((f_step_Dir_From_c n).a.enc x.1) ((f_step_Dir_From_c n).b.enc x.2)) (kfin (f_step_Dir_From_e n) Tryz.f173 (f_step_Dir_From_c n) (f_step_Dir_From_c n).b.n) = (f_step_Dir_From_c n).f x := by kernel_rfl
theorem f_step_Dir_From_ok (X : Cx Tryz.prog K Gl) (n : Nat) : FOk Tryz.prog K Gl 173 (f_step_Dir_From_c n) := func_ok (E := f_step_Dir_From_e n) (fn := Tryz.f173) (cf := (f_step_Dir_From_c n)) (os := []) X (tok _ _ _ _) rfl (f_step_Dir_From_a X n) snil (by kernel_rfl) Tryz.func173 (by kernel_rfl) (f_step_Dir_From_k n)
def f_step_Of_l0_s (n : Nat) (r : Int → Int → Int → Int → (Int × Int × Unit) → (Int × Int × Unit) → (List (Int × Int × Unit)) → Option ((Unit × Unit) × (Int × Int × Unit) × Int × Int × Unit)) (p5 : Int) (q6 : Int) (t7 : Int) (t8 : Int) (h9 : Int × Int × Unit) (h10 : Int × Int × Unit) (h11 : List (Int × Int × Unit)) : Option ((Unit × Unit) × (Int × Int × Unit) × Int × Int × Unit) :=
 Br (lt t8 t7)
  (Br (inr t8 (h11.length : Int))
   (ob (f_piece_Side p5) fun y16 =>
   ob (f_step_Dir_Turn (h11.getD t8.toNat (0, 0, ())) y16.1) fun y17 =>
   ob (f_step_Dir_From y17.1 q6) fun y18 =>
   ob (f_set_Set_With h10 y18.1) fun y19 =>
   r p5 q6 t7 (wa .i64 t8 1) h9 y19.1 h11)
   (none))
  (some (((), ()), h9, h10))
def f_step_Of_l0_i (n : Nat) : Nat → Int → Int → Int → Int → (Int × Int × Unit) → (Int × Int × Unit) → (List (Int × Int × Unit)) → Option ((Unit × Unit) × (Int × Int × Unit) × Int × Int × Unit)
 | 0, _, _, _, _, _, _, _ => none
 | m + 1, p5, q6, t7, t8, h9, h10, h11 => f_step_Of_l0_s n (f_step_Of_l0_i n m) p5 q6 t7 t8 h9 h10 h11
def f_step_Of_l0 (n : Nat) := f_step_Of_l0_i n n
def f_step_Of_l0b_s (n : Nat) (r : Int → Int → Int → Int → (Int × Int × Unit) → (Int × Int × Unit) → Option ((Unit × Unit) × (Int × Int × Unit) × Int × Int × Unit)) (p21 : Int) (q22 : Int) (t23 : Int) (t24 : Int) (h25 : Int × Int × Unit) (h26 : Int × Int × Unit) : Option ((Unit × Unit) × (Int × Int × Unit) × Int × Int × Unit) :=
 Br (lt t24 t23)
  (none)
  (some (((), ()), h25, h26))
def f_step_Of_l0b_i (n : Nat) : Nat → Int → Int → Int → Int → (Int × Int × Unit) → (Int × Int × Unit) → Option ((Unit × Unit) × (Int × Int × Unit) × Int × Int × Unit)
 | 0, _, _, _, _, _, _ => none
 | m + 1, p21, q22, t23, t24, h25, h26 => f_step_Of_l0b_s n (f_step_Of_l0b_i n m) p21 q22 t23 t24 h25 h26
def f_step_Of_l0b (n : Nat) := f_step_Of_l0b_i n n
def f_step_Of (n : Nat) (p0 : Int) (q1 : Int) : Option ((Int × Int × Unit) × Unit × Unit) :=
 ob (f_piece_Kind p0) fun y28 =>
 ob (f_step_Dirs n y28.1) fun y29 =>
 sm y29 (fun y30 =>
  ob (f_step_Of_l0 n p0 q1 (y30.2.2.length : Int) 0 (0, 0, ()) (0, 0, ()) y30.2.2) fun y32 =>
  some (y32.2.2, (), ()))
  (fun y31 =>
  ob (f_step_Of_l0b n p0 q1 0 0 (0, 0, ()) (0, 0, ())) fun y33 =>
  some (y33.2.2, (), ()))
def f_step_Of_c (n : Nat) : Cf := ⟨.c (.t (.i .i8) []) (.t (.i .i64) []), .e, [⟨.t (.p (.i .u64) (.p (.i .u64) (.u))) [], .e, .e⟩], fun x => f_step_Of n x.1.1 x.1.2⟩
def f_step_Of_l0_c (n : Nat) : Cs := ⟨0, [], ⟨[0, 1, 4, 5, 10, 11, 12], .c (.t (.i .i8) []) (.c (.t (.i .i64) []) (.c (.t (.r .p) [.p 0]) (.c (.t (.r .p) [.p 1]) (.c (.t (.r .s) [.w 2]) (.c (.t (.i .i64) []) (.t (.i .i64) [])))))), .c (.o (.p (.i .u64) (.p (.i .u64) (.u))) []) (.c (.o (.p (.i .u64) (.p (.i .u64) (.u))) []) (.w 210 (.p (.i .i64) (.p (.i .i64) (.u))) true))⟩, [⟨0, ⟨[4, 5], .c (.t (.r .p) [.p 0]) (.t (.r .p) [.p 1]), .c (.o (.p (.i .u64) (.p (.i .u64) (.u))) []) (.o (.p (.i .u64) (.p (.i .u64) (.u))) [])⟩⟩], fun v => f_step_Of_l0 n v.1.1 v.1.2.1 v.1.2.2.2.2.2.1 v.1.2.2.2.2.2.2 v.2.1 v.2.2.1 v.2.2.2⟩
def f_step_Of_l0b_c (n : Nat) : Cs := ⟨0, [], ⟨[0, 1, 4, 5, 10, 11, 12], .c (.t (.i .i8) []) (.c (.t (.i .i64) []) (.c (.t (.r .p) [.p 0]) (.c (.t (.r .p) [.p 1]) (.c (.t (.r .s) [.ns]) (.c (.t (.i .i64) []) (.t (.i .i64) [])))))), .c (.o (.p (.i .u64) (.p (.i .u64) (.u))) []) (.o (.p (.i .u64) (.p (.i .u64) (.u))) [])⟩, [⟨0, ⟨[4, 5], .c (.t (.r .p) [.p 0]) (.t (.r .p) [.p 1]), .c (.o (.p (.i .u64) (.p (.i .u64) (.u))) []) (.o (.p (.i .u64) (.p (.i .u64) (.u))) [])⟩⟩], fun v => f_step_Of_l0b n v.1.1 v.1.2.1 v.1.2.2.2.2.2.1 v.1.2.2.2.2.2.2 v.2.1 v.2.2⟩
def f_step_Of_e (n : Nat) : Env := en [(90, f_piece_Kind_c n), (172, f_step_Dirs_c n), (56, f_piece_Side_c n), (171, f_step_Dir_Turn_c n), (173, f_step_Dir_From_c n), (148, f_set_Set_With_c n)] [] [] [(0, f_step_Of_l0_c n), (0, f_step_Of_l0b_c n)]
theorem f_step_Of_a (X : Cx Tryz.prog K Gl) (n : Nat) : FAll Tryz.prog K Gl [(90, f_piece_Kind_c n), (172, f_step_Dirs_c n), (56, f_piece_Side_c n), (171, f_step_Dir_Turn_c n), (173, f_step_Dir_From_c n), (148, f_set_Set_With_c n)] := (fcons (f_piece_Kind_ok X n) (fcons (f_step_Dirs_ok X n) (fcons (f_piece_Side_ok X n) (fcons (f_step_Dir_Turn_ok X n) (fcons (f_step_Dir_From_ok X n) (fcons (f_set_Set_With_ok X n) fnil))))))
theorem f_step_Of_l0_k (n : Nat) (p : Nat) (v : (f_step_Of_l0_c n).s.X) : run (f_step_Of_e n) (lbody 0 (bodyOf Tryz.f168)) ((f_step_Of_l0_c n).s.st Tryz.f168.ntmps v) (kloop 0 (f_step_Of_l0_c n) (fun v => f_step_Of_l0_i n p v.1.1 v.1.2.1 v.1.2.2.2.2.2.1 v.1.2.2.2.2.2.2 v.2.1 v.2.2.1 v.2.2.2)) = f_step_Of_l0_i n (p + 1) v.1.1 v.1.2.1 v.1.2.2.2.2.2.1 v.1.2.2.2.2.2.2 v.2.1 v.2.2.1 v.2.2.2 := by kernel_rfl
theorem f_step_Of_l0_o (X : Cx Tryz.prog K Gl) (n : Nat) : SO Tryz.prog K Gl Tryz.f168.ntmps 0 (.block 0 (.loop (lbody 0 (bodyOf Tryz.f168)))) (f_step_Of_l0_c n) := loop_ok (E := f_step_Of_e n) (os := []) (s := f_step_Of_l0_c n) (n := n) X (tok _ _ _ _) rfl (f_step_Of_a X n) snil (by kernel_rfl) rfl (fun p (v : (f_step_Of_l0_c n).s.X) => f_step_Of_l0_i n p v.1.1 v.1.2.1 v.1.2.2.2.2.2.1 v.1.2.2.2.2.2.2 v.2.1 v.2.2.1 v.2.2.2) (fun _ => rfl) (f_step_Of_l0_k n) (fun _ => rfl)
theorem f_step_Of_l0b_k (n : Nat) (p : Nat) (v : (f_step_Of_l0b_c n).s.X) : run (f_step_Of_e n) (lbody 0 (bodyOf Tryz.f168)) ((f_step_Of_l0b_c n).s.st Tryz.f168.ntmps v) (kloop 0 (f_step_Of_l0b_c n) (fun v => f_step_Of_l0b_i n p v.1.1 v.1.2.1 v.1.2.2.2.2.2.1 v.1.2.2.2.2.2.2 v.2.1 v.2.2)) = f_step_Of_l0b_i n (p + 1) v.1.1 v.1.2.1 v.1.2.2.2.2.2.1 v.1.2.2.2.2.2.2 v.2.1 v.2.2 := by kernel_rfl
theorem f_step_Of_l0b_o (X : Cx Tryz.prog K Gl) (n : Nat) : SO Tryz.prog K Gl Tryz.f168.ntmps 0 (.block 0 (.loop (lbody 0 (bodyOf Tryz.f168)))) (f_step_Of_l0b_c n) := loop_ok (E := f_step_Of_e n) (os := []) (s := f_step_Of_l0b_c n) (n := n) X (tok _ _ _ _) rfl (f_step_Of_a X n) snil (by kernel_rfl) rfl (fun p (v : (f_step_Of_l0b_c n).s.X) => f_step_Of_l0b_i n p v.1.1 v.1.2.1 v.1.2.2.2.2.2.1 v.1.2.2.2.2.2.2 v.2.1 v.2.2) (fun _ => rfl) (f_step_Of_l0b_k n) (fun _ => rfl)
theorem f_step_Of_k (n : Nat) (x : (f_step_Of_c n).a.X × (f_step_Of_c n).b.X) : run (f_step_Of_e n) (bodyOf Tryz.f168) (entry Tryz.f168.ntmps ((f_step_Of_c n).a.enc x.1) ((f_step_Of_c n).b.enc x.2)) (kfin (f_step_Of_e n) Tryz.f168 (f_step_Of_c n) (f_step_Of_c n).b.n) = (f_step_Of_c n).f x := by kernel_rfl
theorem f_step_Of_ok (X : Cx Tryz.prog K Gl) (n : Nat) : FOk Tryz.prog K Gl 168 (f_step_Of_c n) := func_ok (E := f_step_Of_e n) (fn := Tryz.f168) (cf := (f_step_Of_c n)) (os := [(.block 0 (.loop (lbody 0 (bodyOf Tryz.f168))), f_step_Of_l0_c n), (.block 0 (.loop (lbody 0 (bodyOf Tryz.f168))), f_step_Of_l0b_c n)]) X (tok _ _ _ _) rfl (f_step_Of_a X n) (scons (f_step_Of_l0_o X n) (scons (f_step_Of_l0b_o X n) snil)) (by kernel_rfl) Tryz.func168 (by kernel_rfl) (f_step_Of_k n)
def f_ray_Dirs (kind0 : Int) : Option ((Unit × Unit × (List (Int × Int × Unit))) ⊕ (Unit × Unit × Unit)) :=
 Br (eq kind0 2)
  (some (.inl ((), (), [(0, (-1), ())])))
  (Br (eq kind0 6)
   (Br (eq kind0 6)
    (some (.inl ((), (), [((-1), (-1), ()), (1, (-1), ()), ((-1), 1, ()), (1, 1, ())])))
    (Br (eq kind0 7)
     (Br (eq kind0 7)
      (some (.inl ((), (), [(0, (-1), ()), ((-1), 0, ()), (1, 0, ()), (0, 1, ())])))
      (some (.inr ((), (), ()))))
     (Br (eq kind0 15)
      (some (.inl ((), (), [(0, (-1), ()), ((-1), 0, ()), (1, 0, ()), (0, 1, ())])))
      (some (.inr ((), (), ()))))))
   (Br (eq kind0 14)
    (some (.inl ((), (), [((-1), (-1), ()), (1, (-1), ()), ((-1), 1, ()), (1, 1, ())])))
    (Br (eq kind0 7)
     (Br (eq kind0 7)
      (some (.inl ((), (), [(0, (-1), ()), ((-1), 0, ()), (1, 0, ()), (0, 1, ())])))
      (some (.inr ((), (), ()))))
     (Br (eq kind0 15)
      (some (.inl ((), (), [(0, (-1), ()), ((-1), 0, ()), (1, 0, ()), (0, 1, ())])))
      (some (.inr ((), (), ())))))))
def f_ray_Dirs_c (n : Nat) : Cf := ⟨.t (.i .i64) [], .e, [⟨.t (.r .s) [.w 0], .e, .w 210 (.p (.i .i64) (.p (.i .i64) (.u))) true⟩, ⟨.t (.r .s) [.ns], .e, .e⟩], fun x => f_ray_Dirs x.1⟩
def f_ray_Dirs_e (n : Nat) : Env := en [] [] [] []
theorem f_ray_Dirs_a (X : Cx Tryz.prog K Gl) (n : Nat) : FAll Tryz.prog K Gl [] := fnil
theorem f_ray_Dirs_k (n : Nat) (x : (f_ray_Dirs_c n).a.X × (f_ray_Dirs_c n).b.X) : run (f_ray_Dirs_e n) (bodyOf Tryz.f169) (entry Tryz.f169.ntmps ((f_ray_Dirs_c n).a.enc x.1) ((f_ray_Dirs_c n).b.enc x.2)) (kfin (f_ray_Dirs_e n) Tryz.f169 (f_ray_Dirs_c n) (f_ray_Dirs_c n).b.n) = (f_ray_Dirs_c n).f x := by kernel_rfl
theorem f_ray_Dirs_ok (X : Cx Tryz.prog K Gl) (n : Nat) : FOk Tryz.prog K Gl 169 (f_ray_Dirs_c n) := func_ok (E := f_ray_Dirs_e n) (fn := Tryz.f169) (cf := (f_ray_Dirs_c n)) (os := []) X (tok _ _ _ _) rfl (f_ray_Dirs_a X n) snil (by kernel_rfl) Tryz.func169 (by kernel_rfl) (f_ray_Dirs_k n)
def f_set_Set_Empty (s0 : Int × Int × Unit) : Bool × Unit × Unit :=
 ((eq s0.1 0) && (eq s0.2.1 0), (), ())
def f_set_Set_Empty_c (n : Nat) : Cf := ⟨.t (.p (.i .u64) (.p (.i .u64) (.u))) [], .e, [⟨.t (.b) [], .e, .e⟩], fun x => some (f_set_Set_Empty x.1)⟩
def f_set_Set_Empty_e (n : Nat) : Env := en [] [] [] []
theorem f_set_Set_Empty_a (X : Cx Tryz.prog K Gl) (n : Nat) : FAll Tryz.prog K Gl [] := fnil
theorem f_set_Set_Empty_k (n : Nat) (x : (f_set_Set_Empty_c n).a.X × (f_set_Set_Empty_c n).b.X) : run (f_set_Set_Empty_e n) (bodyOf Tryz.f123) (entry Tryz.f123.ntmps ((f_set_Set_Empty_c n).a.enc x.1) ((f_set_Set_Empty_c n).b.enc x.2)) (kfin (f_set_Set_Empty_e n) Tryz.f123 (f_set_Set_Empty_c n) (f_set_Set_Empty_c n).b.n) = (f_set_Set_Empty_c n).f x := by kernel_rfl
theorem f_set_Set_Empty_ok (X : Cx Tryz.prog K Gl) (n : Nat) : FOk Tryz.prog K Gl 123 (f_set_Set_Empty_c n) := func_ok (E := f_set_Set_Empty_e n) (fn := Tryz.f123) (cf := (f_set_Set_Empty_c n)) (os := []) X (tok _ _ _ _) rfl (f_set_Set_Empty_a X n) snil (by kernel_rfl) Tryz.func123 (by kernel_rfl) (f_set_Set_Empty_k n)
def f_set_Set_Has (s0 : Int × Int × Unit) (q1 : Int) : Option (Bool × Unit × Unit) :=
 ob (f_set_bit q1) fun y1 =>
 some (!(f_set_Set_Empty (f_set_Set_And s0 y1.1).1).1, (), ())
def f_set_Set_Has_c (n : Nat) : Cf := ⟨.c (.t (.p (.i .u64) (.p (.i .u64) (.u))) []) (.t (.i .i64) []), .e, [⟨.t (.b) [], .e, .e⟩], fun x => f_set_Set_Has x.1.1 x.1.2⟩
def f_set_Set_Has_e (n : Nat) : Env := en [(165, f_set_bit_c n), (141, f_set_Set_And_c n), (123, f_set_Set_Empty_c n)] [] [] []
theorem f_set_Set_Has_a (X : Cx Tryz.prog K Gl) (n : Nat) : FAll Tryz.prog K Gl [(165, f_set_bit_c n), (141, f_set_Set_And_c n), (123, f_set_Set_Empty_c n)] := (fcons (f_set_bit_ok X n) (fcons (f_set_Set_And_ok X n) (fcons (f_set_Set_Empty_ok X n) fnil)))
theorem f_set_Set_Has_k (n : Nat) (x : (f_set_Set_Has_c n).a.X × (f_set_Set_Has_c n).b.X) : run (f_set_Set_Has_e n) (bodyOf Tryz.f174) (entry Tryz.f174.ntmps ((f_set_Set_Has_c n).a.enc x.1) ((f_set_Set_Has_c n).b.enc x.2)) (kfin (f_set_Set_Has_e n) Tryz.f174 (f_set_Set_Has_c n) (f_set_Set_Has_c n).b.n) = (f_set_Set_Has_c n).f x := by kernel_rfl
theorem f_set_Set_Has_ok (X : Cx Tryz.prog K Gl) (n : Nat) : FOk Tryz.prog K Gl 174 (f_set_Set_Has_c n) := func_ok (E := f_set_Set_Has_e n) (fn := Tryz.f174) (cf := (f_set_Set_Has_c n)) (os := []) X (tok _ _ _ _) rfl (f_set_Set_Has_a X n) snil (by kernel_rfl) Tryz.func174 (by kernel_rfl) (f_set_Set_Has_k n)
def f_ray_Way_l0_s (n : Nat) (r : Int → (Int × Int × Unit) → (Int × Int × Unit) → (Int × Int × Unit) → (Int × Int × Unit) → Option ((Unit × Unit) × (Int × Int × Unit) × Int × Int × Unit)) (q2 : Int) (h3 : Int × Int × Unit) (h4 : Int × Int × Unit) (h5 : Int × Int × Unit) (h6 : Int × Int × Unit) : Option ((Unit × Unit) × (Int × Int × Unit) × Int × Int × Unit) :=
 Br (le 0 q2)
  (ob (f_set_Set_With h6 q2) fun y11 =>
  ob (f_set_Set_Has h4 q2) fun y12 =>
  Br (y12.1)
   (some (((), ()), h5, y11.1))
   (ob (f_step_Dir_From h3 q2) fun y13 =>
   r y13.1 h3 h4 h5 y11.1))
  (some (((), ()), h5, h6))
def f_ray_Way_l0_i (n : Nat) : Nat → Int → (Int × Int × Unit) → (Int × Int × Unit) → (Int × Int × Unit) → (Int × Int × Unit) → Option ((Unit × Unit) × (Int × Int × Unit) × Int × Int × Unit)
 | 0, _, _, _, _, _ => none
 | m + 1, q2, h3, h4, h5, h6 => f_ray_Way_l0_s n (f_ray_Way_l0_i n m) q2 h3 h4 h5 h6
def f_ray_Way_l0 (n : Nat) := f_ray_Way_l0_i n n
def f_ray_Way (n : Nat) (q0 : Int) (d1 : Int × Int × Unit) (taken2 : Int × Int × Unit) : Option ((Int × Int × Unit) × Unit × Unit) :=
 Br ((eq d1.1 0) && (eq d1.2.1 0))
  (some ((0, 0, ()), (), ()))
  (ob (f_step_Dir_From d1 q0) fun y15 =>
  ob (f_ray_Way_l0 n y15.1 d1 taken2 (0, 0, ()) (0, 0, ())) fun y16 =>
  some (y16.2.2, (), ()))
def f_ray_Way_c (n : Nat) : Cf := ⟨.c (.t (.i .i64) []) (.c (.t (.p (.i .i64) (.p (.i .i64) (.u))) []) (.t (.p (.i .u64) (.p (.i .u64) (.u))) [])), .e, [⟨.t (.p (.i .u64) (.p (.i .u64) (.u))) [], .e, .e⟩], fun x => f_ray_Way n x.1.1 x.1.2.1 x.1.2.2⟩
def f_ray_Way_l0_c (n : Nat) : Cs := ⟨0, [], ⟨[0, 4, 5, 6, 7], .c (.t (.i .i64) []) (.c (.t (.r .p) [.p 0]) (.c (.t (.r .p) [.p 1]) (.c (.t (.r .p) [.p 2]) (.t (.r .p) [.p 3])))), .c (.o (.p (.i .i64) (.p (.i .i64) (.u))) []) (.c (.o (.p (.i .u64) (.p (.i .u64) (.u))) []) (.c (.o (.p (.i .u64) (.p (.i .u64) (.u))) []) (.o (.p (.i .u64) (.p (.i .u64) (.u))) [])))⟩, [⟨0, ⟨[6, 7], .c (.t (.r .p) [.p 0]) (.t (.r .p) [.p 1]), .c (.o (.p (.i .u64) (.p (.i .u64) (.u))) []) (.o (.p (.i .u64) (.p (.i .u64) (.u))) [])⟩⟩], fun v => f_ray_Way_l0 n v.1.1 v.2.1 v.2.2.1 v.2.2.2.1 v.2.2.2.2⟩
def f_ray_Way_e (n : Nat) : Env := en [(173, f_step_Dir_From_c n), (148, f_set_Set_With_c n), (174, f_set_Set_Has_c n)] [] [] [(0, f_ray_Way_l0_c n)]
theorem f_ray_Way_a (X : Cx Tryz.prog K Gl) (n : Nat) : FAll Tryz.prog K Gl [(173, f_step_Dir_From_c n), (148, f_set_Set_With_c n), (174, f_set_Set_Has_c n)] := (fcons (f_step_Dir_From_ok X n) (fcons (f_set_Set_With_ok X n) (fcons (f_set_Set_Has_ok X n) fnil)))
theorem f_ray_Way_l0_k (n : Nat) (p : Nat) (v : (f_ray_Way_l0_c n).s.X) : run (f_ray_Way_e n) (lbody 0 (bodyOf Tryz.f170)) ((f_ray_Way_l0_c n).s.st Tryz.f170.ntmps v) (kloop 0 (f_ray_Way_l0_c n) (fun v => f_ray_Way_l0_i n p v.1.1 v.2.1 v.2.2.1 v.2.2.2.1 v.2.2.2.2)) = f_ray_Way_l0_i n (p + 1) v.1.1 v.2.1 v.2.2.1 v.2.2.2.1 v.2.2.2.2 := by kernel_rfl
theorem f_ray_Way_l0_o (X : Cx Tryz.prog K Gl) (n : Nat) : SO Tryz.prog K Gl Tryz.f170.ntmps 0 (.block 0 (.loop (lbody 0 (bodyOf Tryz.f170)))) (f_ray_Way_l0_c n) := loop_ok (E := f_ray_Way_e n) (os := []) (s := f_ray_Way_l0_c n) (n := n) X (tok _ _ _ _) rfl (f_ray_Way_a X n) snil (by kernel_rfl) rfl (fun p (v : (f_ray_Way_l0_c n).s.X) => f_ray_Way_l0_i n p v.1.1 v.2.1 v.2.2.1 v.2.2.2.1 v.2.2.2.2) (fun _ => rfl) (f_ray_Way_l0_k n) (fun _ => rfl)
theorem f_ray_Way_k (n : Nat) (x : (f_ray_Way_c n).a.X × (f_ray_Way_c n).b.X) : run (f_ray_Way_e n) (bodyOf Tryz.f170) (entry Tryz.f170.ntmps ((f_ray_Way_c n).a.enc x.1) ((f_ray_Way_c n).b.enc x.2)) (kfin (f_ray_Way_e n) Tryz.f170 (f_ray_Way_c n) (f_ray_Way_c n).b.n) = (f_ray_Way_c n).f x := by kernel_rfl
theorem f_ray_Way_ok (X : Cx Tryz.prog K Gl) (n : Nat) : FOk Tryz.prog K Gl 170 (f_ray_Way_c n) := func_ok (E := f_ray_Way_e n) (fn := Tryz.f170) (cf := (f_ray_Way_c n)) (os := [(.block 0 (.loop (lbody 0 (bodyOf Tryz.f170))), f_ray_Way_l0_c n)]) X (tok _ _ _ _) rfl (f_ray_Way_a X n) (scons (f_ray_Way_l0_o X n) snil) (by kernel_rfl) Tryz.func170 (by kernel_rfl) (f_ray_Way_k n)
def f_ray_Of_l0_s (n : Nat) (r : Int → Int → Int → Int → (Int × Int × Unit) → (Int × Int × Unit) → (Int × Int × Unit) → (List (Int × Int × Unit)) → Option ((Unit × Unit) × (Int × Int × Unit) × Int × Int × Unit)) (p7 : Int) (q8 : Int) (t9 : Int) (t10 : Int) (h11 : Int × Int × Unit) (h12 : Int × Int × Unit) (h13 : Int × Int × Unit) (h14 : List (Int × Int × Unit)) : Option ((Unit × Unit) × (Int × Int × Unit) × Int × Int × Unit) :=
 Br (lt t10 t9)
  (Br (inr t10 (h14.length : Int))
   (ob (f_piece_Side p7) fun y18 =>
   ob (f_step_Dir_Turn (h14.getD t10.toNat (0, 0, ())) y18.1) fun y19 =>
   ob (f_ray_Way n q8 y19.1 h11) fun y20 =>
   r p7 q8 t9 (wa .i64 t10 1) h11 h12 (f_set_Set_Or h13 y20.1).1 h14)
   (none))
  (some (((), ()), h12, h13))
def f_ray_Of_l0_i (n : Nat) : Nat → Int → Int → Int → Int → (Int × Int × Unit) → (Int × Int × Unit) → (Int × Int × Unit) → (List (Int × Int × Unit)) → Option ((Unit × Unit) × (Int × Int × Unit) × Int × Int × Unit)
 | 0, _, _, _, _, _, _, _, _ => none
 | m + 1, p7, q8, t9, t10, h11, h12, h13, h14 => f_ray_Of_l0_s n (f_ray_Of_l0_i n m) p7 q8 t9 t10 h11 h12 h13 h14
def f_ray_Of_l0 (n : Nat) := f_ray_Of_l0_i n n
def f_ray_Of_l0b_s (n : Nat) (r : Int → Int → Int → Int → (Int × Int × Unit) → (Int × Int × Unit) → (Int × Int × Unit) → Option ((Unit × Unit) × (Int × Int × Unit) × Int × Int × Unit)) (p22 : Int) (q23 : Int) (t24 : Int) (t25 : Int) (h26 : Int × Int × Unit) (h27 : Int × Int × Unit) (h28 : Int × Int × Unit) : Option ((Unit × Unit) × (Int × Int × Unit) × Int × Int × Unit) :=
 Br (lt t25 t24)
  (none)
  (some (((), ()), h27, h28))
def f_ray_Of_l0b_i (n : Nat) : Nat → Int → Int → Int → Int → (Int × Int × Unit) → (Int × Int × Unit) → (Int × Int × Unit) → Option ((Unit × Unit) × (Int × Int × Unit) × Int × Int × Unit)
 | 0, _, _, _, _, _, _, _ => none
 | m + 1, p22, q23, t24, t25, h26, h27, h28 => f_ray_Of_l0b_s n (f_ray_Of_l0b_i n m) p22 q23 t24 t25 h26 h27 h28
def f_ray_Of_l0b (n : Nat) := f_ray_Of_l0b_i n n
def f_ray_Of (n : Nat) (p0 : Int) (q1 : Int) (taken2 : Int × Int × Unit) : Option ((Int × Int × Unit) × Unit × Unit) :=
 ob (f_step_Of n p0 q1) fun y2 =>
 ob (f_piece_Kind p0) fun y30 =>
 ob (f_ray_Dirs y30.1) fun y31 =>
 sm y31 (fun y32 =>
  ob (f_ray_Of_l0 n p0 q1 (y32.2.2.length : Int) 0 taken2 (0, 0, ()) y2.1 y32.2.2) fun y34 =>
  some (y34.2.2, (), ()))
  (fun y33 =>
  ob (f_ray_Of_l0b n p0 q1 0 0 taken2 (0, 0, ()) y2.1) fun y35 =>
  some (y35.2.2, (), ()))
def f_ray_Of_c (n : Nat) : Cf := ⟨.c (.t (.i .i8) []) (.c (.t (.i .i64) []) (.t (.p (.i .u64) (.p (.i .u64) (.u))) [])), .e, [⟨.t (.p (.i .u64) (.p (.i .u64) (.u))) [], .e, .e⟩], fun x => f_ray_Of n x.1.1 x.1.2.1 x.1.2.2⟩
def f_ray_Of_l0_c (n : Nat) : Cs := ⟨0, [], ⟨[0, 1, 5, 6, 7, 15, 16, 17], .c (.t (.i .i8) []) (.c (.t (.i .i64) []) (.c (.t (.r .p) [.p 0]) (.c (.t (.r .p) [.p 1]) (.c (.t (.r .p) [.p 2]) (.c (.t (.r .s) [.w 3]) (.c (.t (.i .i64) []) (.t (.i .i64) []))))))), .c (.o (.p (.i .u64) (.p (.i .u64) (.u))) []) (.c (.o (.p (.i .u64) (.p (.i .u64) (.u))) []) (.c (.o (.p (.i .u64) (.p (.i .u64) (.u))) []) (.w 210 (.p (.i .i64) (.p (.i .i64) (.u))) true)))⟩, [⟨0, ⟨[6, 7], .c (.t (.r .p) [.p 0]) (.t (.r .p) [.p 1]), .c (.o (.p (.i .u64) (.p (.i .u64) (.u))) []) (.o (.p (.i .u64) (.p (.i .u64) (.u))) [])⟩⟩], fun v => f_ray_Of_l0 n v.1.1 v.1.2.1 v.1.2.2.2.2.2.2.1 v.1.2.2.2.2.2.2.2 v.2.1 v.2.2.1 v.2.2.2.1 v.2.2.2.2⟩
def f_ray_Of_l0b_c (n : Nat) : Cs := ⟨0, [], ⟨[0, 1, 5, 6, 7, 15, 16, 17], .c (.t (.i .i8) []) (.c (.t (.i .i64) []) (.c (.t (.r .p) [.p 0]) (.c (.t (.r .p) [.p 1]) (.c (.t (.r .p) [.p 2]) (.c (.t (.r .s) [.ns]) (.c (.t (.i .i64) []) (.t (.i .i64) []))))))), .c (.o (.p (.i .u64) (.p (.i .u64) (.u))) []) (.c (.o (.p (.i .u64) (.p (.i .u64) (.u))) []) (.o (.p (.i .u64) (.p (.i .u64) (.u))) []))⟩, [⟨0, ⟨[6, 7], .c (.t (.r .p) [.p 0]) (.t (.r .p) [.p 1]), .c (.o (.p (.i .u64) (.p (.i .u64) (.u))) []) (.o (.p (.i .u64) (.p (.i .u64) (.u))) [])⟩⟩], fun v => f_ray_Of_l0b n v.1.1 v.1.2.1 v.1.2.2.2.2.2.2.1 v.1.2.2.2.2.2.2.2 v.2.1 v.2.2.1 v.2.2.2⟩
def f_ray_Of_e (n : Nat) : Env := en [(168, f_step_Of_c n), (90, f_piece_Kind_c n), (169, f_ray_Dirs_c n), (56, f_piece_Side_c n), (171, f_step_Dir_Turn_c n), (170, f_ray_Way_c n), (161, f_set_Set_Or_c n)] [] [] [(0, f_ray_Of_l0_c n), (0, f_ray_Of_l0b_c n)]
theorem f_ray_Of_a (X : Cx Tryz.prog K Gl) (n : Nat) : FAll Tryz.prog K Gl [(168, f_step_Of_c n), (90, f_piece_Kind_c n), (169, f_ray_Dirs_c n), (56, f_piece_Side_c n), (171, f_step_Dir_Turn_c n), (170, f_ray_Way_c n), (161, f_set_Set_Or_c n)] := (fcons (f_step_Of_ok X n) (fcons (f_piece_Kind_ok X n) (fcons (f_ray_Dirs_ok X n) (fcons (f_piece_Side_ok X n) (fcons (f_step_Dir_Turn_ok X n) (fcons (f_ray_Way_ok X n) (fcons (f_set_Set_Or_ok X n) fnil)))))))
theorem f_ray_Of_l0_k (n : Nat) (p : Nat) (v : (f_ray_Of_l0_c n).s.X) : run (f_ray_Of_e n) (lbody 0 (bodyOf Tryz.f162)) ((f_ray_Of_l0_c n).s.st Tryz.f162.ntmps v) (kloop 0 (f_ray_Of_l0_c n) (fun v => f_ray_Of_l0_i n p v.1.1 v.1.2.1 v.1.2.2.2.2.2.2.1 v.1.2.2.2.2.2.2.2 v.2.1 v.2.2.1 v.2.2.2.1 v.2.2.2.2)) = f_ray_Of_l0_i n (p + 1) v.1.1 v.1.2.1 v.1.2.2.2.2.2.2.1 v.1.2.2.2.2.2.2.2 v.2.1 v.2.2.1 v.2.2.2.1 v.2.2.2.2 := by kernel_rfl
theorem f_ray_Of_l0_o (X : Cx Tryz.prog K Gl) (n : Nat) : SO Tryz.prog K Gl Tryz.f162.ntmps 0 (.block 0 (.loop (lbody 0 (bodyOf Tryz.f162)))) (f_ray_Of_l0_c n) := loop_ok (E := f_ray_Of_e n) (os := []) (s := f_ray_Of_l0_c n) (n := n) X (tok _ _ _ _) rfl (f_ray_Of_a X n) snil (by kernel_rfl) rfl (fun p (v : (f_ray_Of_l0_c n).s.X) => f_ray_Of_l0_i n p v.1.1 v.1.2.1 v.1.2.2.2.2.2.2.1 v.1.2.2.2.2.2.2.2 v.2.1 v.2.2.1 v.2.2.2.1 v.2.2.2.2) (fun _ => rfl) (f_ray_Of_l0_k n) (fun _ => rfl)
theorem f_ray_Of_l0b_k (n : Nat) (p : Nat) (v : (f_ray_Of_l0b_c n).s.X) : run (f_ray_Of_e n) (lbody 0 (bodyOf Tryz.f162)) ((f_ray_Of_l0b_c n).s.st Tryz.f162.ntmps v) (kloop 0 (f_ray_Of_l0b_c n) (fun v => f_ray_Of_l0b_i n p v.1.1 v.1.2.1 v.1.2.2.2.2.2.2.1 v.1.2.2.2.2.2.2.2 v.2.1 v.2.2.1 v.2.2.2)) = f_ray_Of_l0b_i n (p + 1) v.1.1 v.1.2.1 v.1.2.2.2.2.2.2.1 v.1.2.2.2.2.2.2.2 v.2.1 v.2.2.1 v.2.2.2 := by kernel_rfl
theorem f_ray_Of_l0b_o (X : Cx Tryz.prog K Gl) (n : Nat) : SO Tryz.prog K Gl Tryz.f162.ntmps 0 (.block 0 (.loop (lbody 0 (bodyOf Tryz.f162)))) (f_ray_Of_l0b_c n) := loop_ok (E := f_ray_Of_e n) (os := []) (s := f_ray_Of_l0b_c n) (n := n) X (tok _ _ _ _) rfl (f_ray_Of_a X n) snil (by kernel_rfl) rfl (fun p (v : (f_ray_Of_l0b_c n).s.X) => f_ray_Of_l0b_i n p v.1.1 v.1.2.1 v.1.2.2.2.2.2.2.1 v.1.2.2.2.2.2.2.2 v.2.1 v.2.2.1 v.2.2.2) (fun _ => rfl) (f_ray_Of_l0b_k n) (fun _ => rfl)
theorem f_ray_Of_k (n : Nat) (x : (f_ray_Of_c n).a.X × (f_ray_Of_c n).b.X) : run (f_ray_Of_e n) (bodyOf Tryz.f162) (entry Tryz.f162.ntmps ((f_ray_Of_c n).a.enc x.1) ((f_ray_Of_c n).b.enc x.2)) (kfin (f_ray_Of_e n) Tryz.f162 (f_ray_Of_c n) (f_ray_Of_c n).b.n) = (f_ray_Of_c n).f x := by kernel_rfl
theorem f_ray_Of_ok (X : Cx Tryz.prog K Gl) (n : Nat) : FOk Tryz.prog K Gl 162 (f_ray_Of_c n) := func_ok (E := f_ray_Of_e n) (fn := Tryz.f162) (cf := (f_ray_Of_c n)) (os := [(.block 0 (.loop (lbody 0 (bodyOf Tryz.f162))), f_ray_Of_l0_c n), (.block 0 (.loop (lbody 0 (bodyOf Tryz.f162))), f_ray_Of_l0b_c n)]) X (tok _ _ _ _) rfl (f_ray_Of_a X n) (scons (f_ray_Of_l0_o X n) (scons (f_ray_Of_l0b_o X n) snil)) (by kernel_rfl) Tryz.func162 (by kernel_rfl) (f_ray_Of_k n)
def f_attack_On_l0_s (n : Nat) (r : Int → Int → Int → (List (List Int × List (Int × Int × Unit) × List (Int × Int × Unit) × Unit)) → (Int × Int × Unit) → (Int × Int × Unit) → (Int × Int × Unit) → Option ((Unit × Unit) × (List (List Int × List (Int × Int × Unit) × List (Int × Int × Unit) × Unit)) × (Int × Int × Unit) × Int × Int × Unit)) (q7 : Int) (side8 : Int) (kind9 : Int) (h10 : List (List Int × List (Int × Int × Unit) × List (Int × Int × Unit) × Unit)) (h11 : Int × Int × Unit) (h12 : Int × Int × Unit) (h13 : Int × Int × Unit) : Option ((Unit × Unit) × (List (List Int × List (Int × Int × Unit) × List (Int × Int × Unit) × Unit)) × (Int × Int × Unit) × Int × Int × Unit) :=
 Br (le kind9 15)
  (ob (f_piece_Of (ws .i64 1 side8) kind9) fun y19 =>
  Br (eq y19.1 0)
   (r q7 side8 (wa .i64 kind9 1) h10 h11 h12 h13)
   (ob (f_ray_Of n y19.1 q7 h11) fun y20 =>
   ob (f_board_Board_Of side8 kind9 h10) fun y21 =>
   r q7 side8 (wa .i64 kind9 1) h10 h11 h12 (f_set_Set_Or h13 (f_set_Set_And y20.1 y21.1).1).1))
  (some (((), ()), h10, h12, h13))
def f_attack_On_l0_i (n : Nat) : Nat → Int → Int → Int → (List (List Int × List (Int × Int × Unit) × List (Int × Int × Unit) × Unit)) → (Int × Int × Unit) → (Int × Int × Unit) → (Int × Int × Unit) → Option ((Unit × Unit) × (List (List Int × List (Int × Int × Unit) × List (Int × Int × Unit) × Unit)) × (Int × Int × Unit) × Int × Int × Unit)
 | 0, _, _, _, _, _, _, _ => none
 | m + 1, q7, side8, kind9, h10, h11, h12, h13 => f_attack_On_l0_s n (f_attack_On_l0_i n m) q7 side8 kind9 h10 h11 h12 h13
def f_attack_On_l0 (n : Nat) := f_attack_On_l0_i n n
def f_attack_On_j4 (n : Nat) (q1 : Int) (side2 : Int) (h3 : List (List Int × List (Int × Int × Unit) × List (Int × Int × Unit) × Unit)) (h4 : Int × Int × Unit) (h5 : Int × Int × Unit) (h6 : Int × Int × Unit) : Option (Unit × (List (List Int × List (Int × Int × Unit) × List (Int × Int × Unit) × Unit)) × Int × Int × Unit) :=
 ob (f_attack_On_l0 n q1 side2 1 h3 h4 h5 h6) fun y23 =>
 some (y23.1.1, y23.2.1, y23.2.2.2)
def f_attack_On (n : Nat) (q1 : Int) (side2 : Int) (taken3 : Int × Int × Unit) (b0 : List (List Int × List (Int × Int × Unit) × List (Int × Int × Unit) × Unit)) : Option ((Int × Int × Unit) × (List (List Int × List (Int × Int × Unit) × List (Int × Int × Unit) × Unit)) × Unit) :=
 Br (lt q1 0)
  (some ((0, 0, ()), b0, ()))
  (Br (le 81 q1)
   (some ((0, 0, ()), b0, ()))
   (Br (!(eq side2 0))
    (Br (!(eq side2 1))
     (some ((0, 0, ()), b0, ()))
     (ob (f_attack_On_j4 n q1 side2 b0 taken3 (0, 0, ()) (0, 0, ())) fun y24 =>
     some (y24.2.2, y24.2.1, ())))
    (ob (f_attack_On_j4 n q1 side2 b0 taken3 (0, 0, ()) (0, 0, ())) fun y25 =>
    some (y25.2.2, y25.2.1, ()))))
def f_attack_On_c (n : Nat) : Cf := ⟨.c (.ip 0 [.i 0]) (.c (.t (.i .i64) []) (.c (.t (.i .i64) []) (.t (.p (.i .u64) (.p (.i .u64) (.u))) []))), .w 0 (.p (.a .i8 98) (.p (.l 32 (.p (.i .u64) (.p (.i .u64) (.u)))) (.p (.l 2 (.p (.i .u64) (.p (.i .u64) (.u)))) (.u)))) false, [⟨.t (.p (.i .u64) (.p (.i .u64) (.u))) [], .w 0 (.p (.a .i8 98) (.p (.l 32 (.p (.i .u64) (.p (.i .u64) (.u)))) (.p (.l 2 (.p (.i .u64) (.p (.i .u64) (.u)))) (.u)))) false, .e⟩], fun x => f_attack_On n x.1.2.1 x.1.2.2.1 x.1.2.2.2 x.2⟩
def f_attack_On_l0_c (n : Nat) : Cs := ⟨1, [], ⟨[0, 1, 2, 7, 8, 9, 10], .c (.ip 0 [.i 0]) (.c (.t (.i .i64) []) (.c (.t (.i .i64) []) (.c (.t (.r .p) [.p 1]) (.c (.t (.r .p) [.p 2]) (.c (.t (.r .p) [.p 3]) (.t (.i .i64) [])))))), .c (.w 0 (.p (.a .i8 98) (.p (.l 32 (.p (.i .u64) (.p (.i .u64) (.u)))) (.p (.l 2 (.p (.i .u64) (.p (.i .u64) (.u)))) (.u)))) false) (.c (.o (.p (.i .u64) (.p (.i .u64) (.u))) []) (.c (.o (.p (.i .u64) (.p (.i .u64) (.u))) []) (.o (.p (.i .u64) (.p (.i .u64) (.u))) [])))⟩, [⟨0, ⟨[8, 9], .c (.t (.r .p) [.p 1]) (.t (.r .p) [.p 2]), .c (.w 0 (.p (.a .i8 98) (.p (.l 32 (.p (.i .u64) (.p (.i .u64) (.u)))) (.p (.l 2 (.p (.i .u64) (.p (.i .u64) (.u)))) (.u)))) false) (.c (.o (.p (.i .u64) (.p (.i .u64) (.u))) []) (.o (.p (.i .u64) (.p (.i .u64) (.u))) []))⟩⟩], fun v => f_attack_On_l0 n v.1.2.1 v.1.2.2.1 v.1.2.2.2.2.2.2 v.2.1 v.2.2.1 v.2.2.2.1 v.2.2.2.2⟩
def f_attack_On_j4_c (n : Nat) : Cs := ⟨1, [], ⟨[0, 1, 2, 7, 8, 9], .c (.ip 0 [.i 0]) (.c (.t (.i .i64) []) (.c (.t (.i .i64) []) (.c (.t (.r .p) [.p 1]) (.c (.t (.r .p) [.p 2]) (.t (.r .p) [.p 3]))))), .c (.w 0 (.p (.a .i8 98) (.p (.l 32 (.p (.i .u64) (.p (.i .u64) (.u)))) (.p (.l 2 (.p (.i .u64) (.p (.i .u64) (.u)))) (.u)))) false) (.c (.o (.p (.i .u64) (.p (.i .u64) (.u))) []) (.c (.o (.p (.i .u64) (.p (.i .u64) (.u))) []) (.o (.p (.i .u64) (.p (.i .u64) (.u))) [])))⟩, [⟨1, ⟨[8], .t (.r .p) [.p 1], .c (.w 0 (.p (.a .i8 98) (.p (.l 32 (.p (.i .u64) (.p (.i .u64) (.u)))) (.p (.l 2 (.p (.i .u64) (.p (.i .u64) (.u)))) (.u)))) false) (.o (.p (.i .u64) (.p (.i .u64) (.u))) [])⟩⟩], fun v => f_attack_On_j4 n v.1.2.1 v.1.2.2.1 v.2.1 v.2.2.1 v.2.2.2.1 v.2.2.2.2⟩
def f_attack_On_e (n : Nat) : Env := en [(42, f_piece_Of_c n), (162, f_ray_Of_c n), (140, f_board_Board_Of_c n), (141, f_set_Set_And_c n), (161, f_set_Set_Or_c n)] [] [(4, f_attack_On_j4_c n)] [(0, f_attack_On_l0_c n)]
theorem f_attack_On_a (X : Cx Tryz.prog K Gl) (n : Nat) : FAll Tryz.prog K Gl [(42, f_piece_Of_c n), (162, f_ray_Of_c n), (140, f_board_Board_Of_c n), (141, f_set_Set_And_c n), (161, f_set_Set_Or_c n)] := (fcons (f_piece_Of_ok X n) (fcons (f_ray_Of_ok X n) (fcons (f_board_Board_Of_ok X n) (fcons (f_set_Set_And_ok X n) (fcons (f_set_Set_Or_ok X n) fnil)))))
theorem f_attack_On_l0_k (n : Nat) (p : Nat) (v : (f_attack_On_l0_c n).s.X) : run (f_attack_On_e n) (lbody 0 (bodyOf Tryz.f144)) ((f_attack_On_l0_c n).s.st Tryz.f144.ntmps v) (kloop 0 (f_attack_On_l0_c n) (fun v => f_attack_On_l0_i n p v.1.2.1 v.1.2.2.1 v.1.2.2.2.2.2.2 v.2.1 v.2.2.1 v.2.2.2.1 v.2.2.2.2)) = f_attack_On_l0_i n (p + 1) v.1.2.1 v.1.2.2.1 v.1.2.2.2.2.2.2 v.2.1 v.2.2.1 v.2.2.2.1 v.2.2.2.2 := by kernel_rfl
theorem f_attack_On_l0_o (X : Cx Tryz.prog K Gl) (n : Nat) : SO Tryz.prog K Gl Tryz.f144.ntmps 1 (.block 0 (.loop (lbody 0 (bodyOf Tryz.f144)))) (f_attack_On_l0_c n) := loop_ok (E := f_attack_On_e n) (os := []) (s := f_attack_On_l0_c n) (n := n) X (tok _ _ _ _) rfl (f_attack_On_a X n) snil (by kernel_rfl) rfl (fun p (v : (f_attack_On_l0_c n).s.X) => f_attack_On_l0_i n p v.1.2.1 v.1.2.2.1 v.1.2.2.2.2.2.2 v.2.1 v.2.2.1 v.2.2.2.1 v.2.2.2.2) (fun _ => rfl) (f_attack_On_l0_k n) (fun _ => rfl)
theorem f_attack_On_j4_k (n : Nat) (v : (f_attack_On_j4_c n).s.X) : run (f_attack_On_e n) (jbody 4 (bodyOf Tryz.f144)) ((f_attack_On_j4_c n).s.st Tryz.f144.ntmps v) (decS 1 (f_attack_On_j4_c n).x) = (f_attack_On_j4_c n).f v := by kernel_rfl
theorem f_attack_On_j4_o (X : Cx Tryz.prog K Gl) (n : Nat) : SO Tryz.prog K Gl Tryz.f144.ntmps 1 (jbody 4 (bodyOf Tryz.f144)) (f_attack_On_j4_c n) := join_ok (E := f_attack_On_e n) (os := [(.block 0 (.loop (lbody 0 (bodyOf Tryz.f144))), f_attack_On_l0_c n)]) X (tok _ _ _ _) rfl (f_attack_On_a X n) (scons (f_attack_On_l0_o X n) snil) (by kernel_rfl) rfl (f_attack_On_j4_k n)
theorem f_attack_On_k (n : Nat) (x : (f_attack_On_c n).a.X × (f_attack_On_c n).b.X) : run (f_attack_On_e n) (bodyOf Tryz.f144) (entry Tryz.f144.ntmps ((f_attack_On_c n).a.enc x.1) ((f_attack_On_c n).b.enc x.2)) (kfin (f_attack_On_e n) Tryz.f144 (f_attack_On_c n) (f_attack_On_c n).b.n) = (f_attack_On_c n).f x := by kernel_rfl
theorem f_attack_On_ok (X : Cx Tryz.prog K Gl) (n : Nat) : FOk Tryz.prog K Gl 144 (f_attack_On_c n) := func_ok (E := f_attack_On_e n) (fn := Tryz.f144) (cf := (f_attack_On_c n)) (os := [(jbody 4 (bodyOf Tryz.f144), f_attack_On_j4_c n)]) X (tok _ _ _ _) rfl (f_attack_On_a X n) (scons (f_attack_On_j4_o X n) snil) (by kernel_rfl) Tryz.func144 (by kernel_rfl) (f_attack_On_k n)
def f_attack_Checkers (n : Nat) (side1 : Int) (b0 : List (List Int × List (Int × Int × Unit) × List (Int × Int × Unit) × Unit)) : Option ((Int × Int × Unit) × (List (List Int × List (Int × Int × Unit) × List (Int × Int × Unit) × Unit)) × Unit) :=
 ob (f_board_Board_King side1 b0) fun y1 =>
 ob (f_attack_On n y1.1 (ws .i64 1 side1) (f_board_Board_Taken b0).1 b0) fun y2 =>
 some (y2.1, b0, ())
def f_attack_Checkers_c (n : Nat) : Cf := ⟨.c (.ip 0 [.i 0]) (.t (.i .i64) []), .w 0 (.p (.a .i8 98) (.p (.l 32 (.p (.i .u64) (.p (.i .u64) (.u)))) (.p (.l 2 (.p (.i .u64) (.p (.i .u64) (.u)))) (.u)))) false, [⟨.t (.p (.i .u64) (.p (.i .u64) (.u))) [], .w 0 (.p (.a .i8 98) (.p (.l 32 (.p (.i .u64) (.p (.i .u64) (.u)))) (.p (.l 2 (.p (.i .u64) (.p (.i .u64) (.u)))) (.u)))) false, .e⟩], fun x => f_attack_Checkers n x.1.2 x.2⟩
def f_attack_Checkers_e (n : Nat) : Env := en [(145, f_board_Board_King_c n), (146, f_board_Board_Taken_c n), (144, f_attack_On_c n)] [] [] []
theorem f_attack_Checkers_a (X : Cx Tryz.prog K Gl) (n : Nat) : FAll Tryz.prog K Gl [(145, f_board_Board_King_c n), (146, f_board_Board_Taken_c n), (144, f_attack_On_c n)] := (fcons (f_board_Board_King_ok X n) (fcons (f_board_Board_Taken_ok X n) (fcons (f_attack_On_ok X n) fnil)))
theorem f_attack_Checkers_k (n : Nat) (x : (f_attack_Checkers_c n).a.X × (f_attack_Checkers_c n).b.X) : run (f_attack_Checkers_e n) (bodyOf Tryz.f122) (entry Tryz.f122.ntmps ((f_attack_Checkers_c n).a.enc x.1) ((f_attack_Checkers_c n).b.enc x.2)) (kfin (f_attack_Checkers_e n) Tryz.f122 (f_attack_Checkers_c n) (f_attack_Checkers_c n).b.n) = (f_attack_Checkers_c n).f x := by kernel_rfl
theorem f_attack_Checkers_ok (X : Cx Tryz.prog K Gl) (n : Nat) : FOk Tryz.prog K Gl 122 (f_attack_Checkers_c n) := func_ok (E := f_attack_Checkers_e n) (fn := Tryz.f122) (cf := (f_attack_Checkers_c n)) (os := []) X (tok _ _ _ _) rfl (f_attack_Checkers_a X n) snil (by kernel_rfl) Tryz.func122 (by kernel_rfl) (f_attack_Checkers_k n)
def f_attack_InCheck (n : Nat) (side1 : Int) (b0 : List (List Int × List (Int × Int × Unit) × List (Int × Int × Unit) × Unit)) : Option (Bool × (List (List Int × List (Int × Int × Unit) × List (Int × Int × Unit) × Unit)) × Unit) :=
 ob (f_attack_Checkers n side1 b0) fun y1 =>
 some (!(f_set_Set_Empty y1.1).1, b0, ())
def f_attack_InCheck_c (n : Nat) : Cf := ⟨.c (.ip 0 [.i 0]) (.t (.i .i64) []), .w 0 (.p (.a .i8 98) (.p (.l 32 (.p (.i .u64) (.p (.i .u64) (.u)))) (.p (.l 2 (.p (.i .u64) (.p (.i .u64) (.u)))) (.u)))) false, [⟨.t (.b) [], .w 0 (.p (.a .i8 98) (.p (.l 32 (.p (.i .u64) (.p (.i .u64) (.u)))) (.p (.l 2 (.p (.i .u64) (.p (.i .u64) (.u)))) (.u)))) false, .e⟩], fun x => f_attack_InCheck n x.1.2 x.2⟩
def f_attack_InCheck_e (n : Nat) : Env := en [(122, f_attack_Checkers_c n), (123, f_set_Set_Empty_c n)] [] [] []
theorem f_attack_InCheck_a (X : Cx Tryz.prog K Gl) (n : Nat) : FAll Tryz.prog K Gl [(122, f_attack_Checkers_c n), (123, f_set_Set_Empty_c n)] := (fcons (f_attack_Checkers_ok X n) (fcons (f_set_Set_Empty_ok X n) fnil))
theorem f_attack_InCheck_k (n : Nat) (x : (f_attack_InCheck_c n).a.X × (f_attack_InCheck_c n).b.X) : run (f_attack_InCheck_e n) (bodyOf Tryz.f100) (entry Tryz.f100.ntmps ((f_attack_InCheck_c n).a.enc x.1) ((f_attack_InCheck_c n).b.enc x.2)) (kfin (f_attack_InCheck_e n) Tryz.f100 (f_attack_InCheck_c n) (f_attack_InCheck_c n).b.n) = (f_attack_InCheck_c n).f x := by kernel_rfl
theorem f_attack_InCheck_ok (X : Cx Tryz.prog K Gl) (n : Nat) : FOk Tryz.prog K Gl 100 (f_attack_InCheck_c n) := func_ok (E := f_attack_InCheck_e n) (fn := Tryz.f100) (cf := (f_attack_InCheck_c n)) (os := []) X (tok _ _ _ _) rfl (f_attack_InCheck_a X n) snil (by kernel_rfl) Tryz.func100 (by kernel_rfl) (f_attack_InCheck_k n)
def f_attack_Check (n : Nat) (p0 : List Int) : Option (Int × Unit × Unit) :=
 ob (f_board_Check n p0) fun y9 =>
 Br (!(eq y9.1 0))
  (some (y9.1, (), ()))
  (ob (f_board_New n p0) fun y12 =>
  ob (f_attack_InCheck n (ws .i64 1 (wr .i64 (p0.getD 97 0))) [y12.2.2]) fun y13 =>
  Br (y13.1)
   (some (54, (), ()))
   (some (0, (), ())))
def f_attack_Check_c (n : Nat) : Cf := ⟨.t (.a .i8 98) [], .e, [⟨.t (.i .i64) [], .e, .e⟩], fun x => f_attack_Check n x.1⟩
def f_attack_Check_e (n : Nat) : Env := en [(99, f_board_Check_c n), (101, f_board_New_c n), (100, f_attack_InCheck_c n)] [(4, [])] [] []
theorem f_attack_Check_a (X : Cx Tryz.prog K Gl) (n : Nat) : FAll Tryz.prog K Gl [(99, f_board_Check_c n), (101, f_board_New_c n), (100, f_attack_InCheck_c n)] := (fcons (f_board_Check_ok X n) (fcons (f_board_New_ok X n) (fcons (f_attack_InCheck_ok X n) fnil)))
theorem f_attack_Check_k (n : Nat) (x : (f_attack_Check_c n).a.X × (f_attack_Check_c n).b.X) : run (f_attack_Check_e n) (bodyOf Tryz.f67) (entry Tryz.f67.ntmps ((f_attack_Check_c n).a.enc x.1) ((f_attack_Check_c n).b.enc x.2)) (kfin (f_attack_Check_e n) Tryz.f67 (f_attack_Check_c n) (f_attack_Check_c n).b.n) = (f_attack_Check_c n).f x := by kernel_rfl
theorem f_attack_Check_ok (X : Cx Tryz.prog K Gl) (n : Nat) : FOk Tryz.prog K Gl 67 (f_attack_Check_c n) := func_ok (E := f_attack_Check_e n) (fn := Tryz.f67) (cf := (f_attack_Check_c n)) (os := []) X (tok _ _ _ _) rfl (f_attack_Check_a X n) snil (by kernel_rfl) Tryz.func67 (by kernel_rfl) (f_attack_Check_k n)
def f_sfen_Parse_j15 (n : Nat) (number50 : Int) (h51 : List Int) (h52 : List Int) : Option ((Unit × Int × Int) × List Int) :=
 ob (f_attack_Check n h52) fun y56 =>
 Br (!(eq y56.1 0))
  (some (((), 0, y56.1), List.replicate 98 0))
  (some (((), number50, 0), h52))
def f_sfen_Parse_j13 (n : Nat) (number46 : Int) (h47 : List Int) (h48 : List (ByteArray)) (h49 : List Int) : Option ((Unit × Int × Int) × List Int) :=
 Br (inr 1 (h48.length : Int))
  (Br (seq (h48.getD 1 (⟨#[]⟩ : ByteArray)) (⟨#[119]⟩ : ByteArray))
   (ob (f_sfen_Parse_j15 n number46 h47 (h49.set 97 1)) fun y57 =>
   some ((y57.1.1, y57.1.2.1, y57.1.2.2), y57.2))
   (ob (f_sfen_Parse_j15 n number46 h47 h49) fun y58 =>
   some ((y58.1.1, y58.1.2.1, y58.1.2.2), y58.2)))
  (none)
def f_sfen_Parse (n : Nat) (s0 : ByteArray) : Option ((List Int × Int × Int) × Unit × Unit) :=
 Br (lt 200 (len s0))
  (some ((List.replicate 98 0, 0, 2), (), ()))
  (ob (l_split s0 (⟨#[32]⟩ : ByteArray)) fun y33 =>
  Br (!(eq (y33.2.2.length : Int) 4))
   (some ((List.replicate 98 0, 0, 70), (), ()))
   (Br (inr 0 (y33.2.2.length : Int))
    (ob (f_sfen_ranks n (y33.2.2.getD 0 (⟨#[]⟩ : ByteArray))) fun y35 =>
    Br (inr 2 (y33.2.2.length : Int))
     (ob (f_sfen_hands n (y33.2.2.getD 2 (⟨#[]⟩ : ByteArray))) fun y37 =>
     Br (inr 3 (y33.2.2.length : Int))
      (ob (l_atoi (y33.2.2.getD 3 (⟨#[]⟩ : ByteArray))) fun y41 =>
      sm y41 (fun y42 =>
       Br (!y35.1.2)
        (some ((List.replicate 98 0, 0, 70), (), ()))
        (Br (!y37.1.2)
         (some ((List.replicate 98 0, 0, 70), (), ()))
         (Br (inr 1 (y33.2.2.length : Int))
          (Br (!(seq (y33.2.2.getD 1 (⟨#[]⟩ : ByteArray)) (⟨#[98]⟩ : ByteArray)))
           (Br (inr 1 (y33.2.2.length : Int))
            (Br (!(seq (y33.2.2.getD 1 (⟨#[]⟩ : ByteArray)) (⟨#[119]⟩ : ByteArray)))
             (some ((List.replicate 98 0, 0, 70), (), ()))
             (Br (inr 3 (y33.2.2.length : Int))
              (ob (l_itoa y42.1.1) fun y59 =>
              Br (!(seq y59.1 (y33.2.2.getD 3 (⟨#[]⟩ : ByteArray))))
               (some ((List.replicate 98 0, 0, 70), (), ()))
               (Br (lt y42.1.1 1)
                (some ((List.replicate 98 0, 0, 70), (), ()))
                (Br (lt 9999 y42.1.1)
                 (some ((List.replicate 98 0, 0, 70), (), ()))
                 (ob (f_sfen_Parse_j13 n y42.1.1 (List.replicate 98 0) y33.2.2 (((List.replicate 98 0).take 0 ++ y35.1.1 ++ (List.replicate 98 0).drop (81)).take 81 ++ y37.1.1 ++ ((List.replicate 98 0).take 0 ++ y35.1.1 ++ (List.replicate 98 0).drop (81)).drop (97))) fun y60 =>
                 some ((y60.2, y60.1.2.1, y60.1.2.2), (), ())))))
              (none)))
            (none))
           (Br (inr 3 (y33.2.2.length : Int))
            (ob (l_itoa y42.1.1) fun y61 =>
            Br (!(seq y61.1 (y33.2.2.getD 3 (⟨#[]⟩ : ByteArray))))
             (some ((List.replicate 98 0, 0, 70), (), ()))
             (Br (lt y42.1.1 1)
              (some ((List.replicate 98 0, 0, 70), (), ()))
              (Br (lt 9999 y42.1.1)
               (some ((List.replicate 98 0, 0, 70), (), ()))
               (ob (f_sfen_Parse_j13 n y42.1.1 (List.replicate 98 0) y33.2.2 (((List.replicate 98 0).take 0 ++ y35.1.1 ++ (List.replicate 98 0).drop (81)).take 81 ++ y37.1.1 ++ ((List.replicate 98 0).take 0 ++ y35.1.1 ++ (List.replicate 98 0).drop (81)).drop (97))) fun y62 =>
               some ((y62.2, y62.1.2.1, y62.1.2.2), (), ())))))
            (none)))
          (none))))
       (fun y43 =>
       Br (!y35.1.2)
        (some ((List.replicate 98 0, 0, 70), (), ()))
        (Br (!y37.1.2)
         (some ((List.replicate 98 0, 0, 70), (), ()))
         (Br (inr 1 (y33.2.2.length : Int))
          (Br (!(seq (y33.2.2.getD 1 (⟨#[]⟩ : ByteArray)) (⟨#[98]⟩ : ByteArray)))
           (Br (inr 1 (y33.2.2.length : Int))
            (Br (!(seq (y33.2.2.getD 1 (⟨#[]⟩ : ByteArray)) (⟨#[119]⟩ : ByteArray)))
             (some ((List.replicate 98 0, 0, 70), (), ()))
             (some ((List.replicate 98 0, 0, 70), (), ())))
            (none))
           (some ((List.replicate 98 0, 0, 70), (), ())))
          (none)))))
      (none))
     (none))
    (none)))
def f_sfen_Parse_c (n : Nat) : Cf := ⟨.t (.s) [], .e, [⟨.tu (.c (.t (.a .i8 98) []) (.c (.t (.i .i64) []) (.t (.i .i64) []))), .e, .e⟩], fun x => f_sfen_Parse n x.1⟩
def f_sfen_Parse_j15_c (n : Nat) : Cs := ⟨0, [], ⟨[2, 6, 9], .c (.t (.r .p) [.p 0]) (.c (.t (.r .p) [.p 1]) (.t (.i .i64) [])), .c (.o (.a .i8 98) []) (.o (.a .i8 98) [])⟩, [⟨1, ⟨[2, 3, 4], .c (.t (.r .p) [.p 0]) (.c (.t (.i .i64) []) (.t (.i .i64) [])), .o (.a .i8 98) []⟩⟩], fun v => f_sfen_Parse_j15 n v.1.2.2 v.2.1 v.2.2⟩
def f_sfen_Parse_j13_c (n : Nat) : Cs := ⟨0, [], ⟨[2, 5, 6, 9], .c (.t (.r .p) [.p 0]) (.c (.t (.r .s) [.w 1]) (.c (.t (.r .p) [.p 2]) (.t (.i .i64) []))), .c (.o (.a .i8 98) []) (.c (.w 9 (.s) true) (.o (.a .i8 98) []))⟩, [⟨1, ⟨[2, 3, 4], .c (.t (.r .p) [.p 0]) (.c (.t (.i .i64) []) (.t (.i .i64) [])), .o (.a .i8 98) []⟩⟩], fun v => f_sfen_Parse_j13 n v.1.2.2.2 v.2.1 v.2.2.1 v.2.2.2⟩
def f_sfen_Parse_e (n : Nat) : Env := en [(36, l_split_c n), (63, f_sfen_ranks_c n), (64, f_sfen_hands_c n), (65, l_atoi_c n), (66, l_itoa_c n), (67, f_attack_Check_c n)] [(11, [])] [(15, f_sfen_Parse_j15_c n), (13, f_sfen_Parse_j13_c n)] []
theorem f_sfen_Parse_a (X : Cx Tryz.prog K Gl) (n : Nat) : FAll Tryz.prog K Gl [(36, l_split_c n), (63, f_sfen_ranks_c n), (64, f_sfen_hands_c n), (65, l_atoi_c n), (66, l_itoa_c n), (67, f_attack_Check_c n)] := (fcons (l_split_ok X n) (fcons (f_sfen_ranks_ok X n) (fcons (f_sfen_hands_ok X n) (fcons (l_atoi_ok X n) (fcons (l_itoa_ok X n) (fcons (f_attack_Check_ok X n) fnil))))))
theorem f_sfen_Parse_j15_k (n : Nat) (v : (f_sfen_Parse_j15_c n).s.X) : run (f_sfen_Parse_e n) (jbody 15 (bodyOf Tryz.f45)) ((f_sfen_Parse_j15_c n).s.st Tryz.f45.ntmps v) (decS 0 (f_sfen_Parse_j15_c n).x) = (f_sfen_Parse_j15_c n).f v := by kernel_rfl
theorem f_sfen_Parse_j15_o (X : Cx Tryz.prog K Gl) (n : Nat) : SO Tryz.prog K Gl Tryz.f45.ntmps 0 (jbody 15 (bodyOf Tryz.f45)) (f_sfen_Parse_j15_c n) := join_ok (E := f_sfen_Parse_e n) (os := []) X (tok _ _ _ _) rfl (f_sfen_Parse_a X n) snil (by kernel_rfl) rfl (f_sfen_Parse_j15_k n)
theorem f_sfen_Parse_j13_k (n : Nat) (v : (f_sfen_Parse_j13_c n).s.X) : run (f_sfen_Parse_e n) (jbody 13 (bodyOf Tryz.f45)) ((f_sfen_Parse_j13_c n).s.st Tryz.f45.ntmps v) (decS 0 (f_sfen_Parse_j13_c n).x) = (f_sfen_Parse_j13_c n).f v := by kernel_rfl
theorem f_sfen_Parse_j13_o (X : Cx Tryz.prog K Gl) (n : Nat) : SO Tryz.prog K Gl Tryz.f45.ntmps 0 (jbody 13 (bodyOf Tryz.f45)) (f_sfen_Parse_j13_c n) := join_ok (E := f_sfen_Parse_e n) (os := [(jbody 15 (bodyOf Tryz.f45), f_sfen_Parse_j15_c n)]) X (tok _ _ _ _) rfl (f_sfen_Parse_a X n) (scons (f_sfen_Parse_j15_o X n) snil) (by kernel_rfl) rfl (f_sfen_Parse_j13_k n)
theorem f_sfen_Parse_k (n : Nat) (x : (f_sfen_Parse_c n).a.X × (f_sfen_Parse_c n).b.X) : run (f_sfen_Parse_e n) (bodyOf Tryz.f45) (entry Tryz.f45.ntmps ((f_sfen_Parse_c n).a.enc x.1) ((f_sfen_Parse_c n).b.enc x.2)) (kfin (f_sfen_Parse_e n) Tryz.f45 (f_sfen_Parse_c n) (f_sfen_Parse_c n).b.n) = (f_sfen_Parse_c n).f x := by kernel_rfl
theorem f_sfen_Parse_ok (X : Cx Tryz.prog K Gl) (n : Nat) : FOk Tryz.prog K Gl 45 (f_sfen_Parse_c n) := func_ok (E := f_sfen_Parse_e n) (fn := Tryz.f45) (cf := (f_sfen_Parse_c n)) (os := [(jbody 13 (bodyOf Tryz.f45), f_sfen_Parse_j13_c n)]) X (tok _ _ _ _) rfl (f_sfen_Parse_a X n) (scons (f_sfen_Parse_j13_o X n) snil) (by kernel_rfl) Tryz.func45 (by kernel_rfl) (f_sfen_Parse_k n)
def f_move_square (file0 : Int) (rank1 : Int) : Option ((Int × Bool) × Unit × Unit) :=
 ob (f_set_Square (wr .i64 (ws .i32 file0 49)) (wr .i64 (ws .i32 rank1 97))) fun y2 =>
 some ((y2.1, le 0 y2.1), (), ())
def f_move_square_c (n : Nat) : Cf := ⟨.c (.t (.i .i32) []) (.t (.i .i32) []), .e, [⟨.tu (.c (.t (.i .i64) []) (.t (.b) [])), .e, .e⟩], fun x => f_move_square x.1.1 x.1.2⟩
def f_move_square_e (n : Nat) : Env := en [(41, f_set_Square_c n)] [] [] []
theorem f_move_square_a (X : Cx Tryz.prog K Gl) (n : Nat) : FAll Tryz.prog K Gl [(41, f_set_Square_c n)] := (fcons (f_set_Square_ok X n) fnil)
theorem f_move_square_k (n : Nat) (x : (f_move_square_c n).a.X × (f_move_square_c n).b.X) : run (f_move_square_e n) (bodyOf Tryz.f55) (entry Tryz.f55.ntmps ((f_move_square_c n).a.enc x.1) ((f_move_square_c n).b.enc x.2)) (kfin (f_move_square_e n) Tryz.f55 (f_move_square_c n) (f_move_square_c n).b.n) = (f_move_square_c n).f x := by kernel_rfl
theorem f_move_square_ok (X : Cx Tryz.prog K Gl) (n : Nat) : FOk Tryz.prog K Gl 55 (f_move_square_c n) := func_ok (E := f_move_square_e n) (fn := Tryz.f55) (cf := (f_move_square_c n)) (os := []) X (tok _ _ _ _) rfl (f_move_square_a X n) snil (by kernel_rfl) Tryz.func55 (by kernel_rfl) (f_move_square_k n)
end Go.AM.T
