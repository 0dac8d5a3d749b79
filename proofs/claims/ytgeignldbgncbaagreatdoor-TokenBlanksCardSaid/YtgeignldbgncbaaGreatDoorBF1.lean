/- What the functions compute, and that they do. -/
import Derived.Test.YtgeignldbgncbaaGreatDoorBF0
import Derived.Test.YtgeignldbgncbaaGreatDoorKL
set_option maxRecDepth 1000000
set_option linter.unusedVariables false
namespace Go.AM.T
open Go Go.AM Go.Proofs
def f_board_Board_Put_j7 (n : Nat) (q10 : Int) (x11 : Int) (h12 : List Int × List (Int × Int × Unit) × List (Int × Int × Unit) × Unit) : Option (Unit × List Int × List (Int × Int × Unit) × List (Int × Int × Unit) × Unit) :=
 Br (inr q10 81)
  (Br (!(eq x11 0))
   (Br (inr x11 32)
    (ob (f_set_Set_With (h12.2.1.getD x11.toNat (0, 0, ())) q10) fun y14 =>
    Br (inr x11 32)
     (ob (f_piece_Side x11) fun y15 =>
     ob (f_piece_Side x11) fun y16 =>
     Br (inr y16.1 2)
      (ob (f_set_Set_With (h12.2.2.1.getD y16.1.toNat (0, 0, ())) q10) fun y17 =>
      Br (inr y15.1 2)
       (some ((), h12.1.set q10.toNat x11, h12.2.1.set x11.toNat y14.1, h12.2.2.1.set y15.1.toNat y17.1, h12.2.2.2))
       (none))
      (none))
     (none))
    (none))
   (some ((), h12.1.set q10.toNat x11, h12.2)))
  (none)
def f_board_Board_Put_j5 (n : Nat) (q6 : Int) (x7 : Int) (h8 : List Int × List (Int × Int × Unit) × List (Int × Int × Unit) × Unit) : Option (Unit × List Int × List (Int × Int × Unit) × List (Int × Int × Unit) × Unit) :=
 ob (f_piece_Kind x7) fun y18 =>
 Br (eq y18.1 0)
  (ob (f_board_Board_Put_j7 n q6 0 h8) fun y19 =>
  some ((), y19.2))
  (ob (f_board_Board_Put_j7 n q6 x7 h8) fun y20 =>
  some ((), y20.2))
def f_board_Board_Put (n : Nat) (q1 : Int) (x2 : Int) (b0 : List Int × List (Int × Int × Unit) × List (Int × Int × Unit) × Unit) : Option (Unit × (List Int × List (Int × Int × Unit) × List (Int × Int × Unit) × Unit) × Unit) :=
 Br (lt q1 0)
  (some ((), b0, ()))
  (Br (le 81 q1)
   (some ((), b0, ()))
   (Br (inr q1 81)
    (Br (!(eq (b0.1.getD q1.toNat 0) 0))
     (Br (inr (b0.1.getD q1.toNat 0) 32)
      (ob (f_set_Set_Without (b0.2.1.getD (b0.1.getD q1.toNat 0).toNat (0, 0, ())) q1) fun y22 =>
      Br (inr (b0.1.getD q1.toNat 0) 32)
       (ob (f_piece_Side (b0.1.getD q1.toNat 0)) fun y23 =>
       ob (f_piece_Side (b0.1.getD q1.toNat 0)) fun y24 =>
       Br (inr y24.1 2)
        (ob (f_set_Set_Without (b0.2.2.1.getD y24.1.toNat (0, 0, ())) q1) fun y25 =>
        Br (inr y23.1 2)
         (ob (f_board_Board_Put_j5 n q1 x2 (b0.1, b0.2.1.set (b0.1.getD q1.toNat 0).toNat y22.1, b0.2.2.1.set y23.1.toNat y25.1, b0.2.2.2)) fun y26 =>
         some ((), y26.2, ()))
         (none))
        (none))
       (none))
      (none))
     (ob (f_board_Board_Put_j5 n q1 x2 b0) fun y27 =>
     some ((), y27.2, ())))
    (none)))
def f_board_Board_Put_c (n : Nat) : Cf := ⟨.c (.t (.r .p) [.p 0]) (.c (.t (.i .i64) []) (.t (.i .i8) [])), .o (.p (.a .i8 98) (.p (.l 32 (.p (.i .u64) (.p (.i .u64) (.u)))) (.p (.l 2 (.p (.i .u64) (.p (.i .u64) (.u)))) (.u)))) [], [⟨.tu (.e), .o (.p (.a .i8 98) (.p (.l 32 (.p (.i .u64) (.p (.i .u64) (.u)))) (.p (.l 2 (.p (.i .u64) (.p (.i .u64) (.u)))) (.u)))) [], .e⟩], fun x => f_board_Board_Put n x.1.2.1 x.1.2.2 x.2⟩
def f_board_Board_Put_j7_c (n : Nat) : Cs := ⟨1, [], ⟨[0, 1, 2], .c (.t (.r .p) [.p 0]) (.c (.t (.i .i64) []) (.t (.i .i8) [])), .o (.p (.a .i8 98) (.p (.l 32 (.p (.i .u64) (.p (.i .u64) (.u)))) (.p (.l 2 (.p (.i .u64) (.p (.i .u64) (.u)))) (.u)))) []⟩, [⟨0, ⟨[], .e, .o (.p (.a .i8 98) (.p (.l 32 (.p (.i .u64) (.p (.i .u64) (.u)))) (.p (.l 2 (.p (.i .u64) (.p (.i .u64) (.u)))) (.u)))) []⟩⟩], fun v => f_board_Board_Put_j7 n v.1.2.1 v.1.2.2 v.2⟩
def f_board_Board_Put_j5_c (n : Nat) : Cs := ⟨1, [], ⟨[0, 1, 2], .c (.t (.r .p) [.p 0]) (.c (.t (.i .i64) []) (.t (.i .i8) [])), .o (.p (.a .i8 98) (.p (.l 32 (.p (.i .u64) (.p (.i .u64) (.u)))) (.p (.l 2 (.p (.i .u64) (.p (.i .u64) (.u)))) (.u)))) []⟩, [⟨0, ⟨[], .e, .o (.p (.a .i8 98) (.p (.l 32 (.p (.i .u64) (.p (.i .u64) (.u)))) (.p (.l 2 (.p (.i .u64) (.p (.i .u64) (.u)))) (.u)))) []⟩⟩], fun v => f_board_Board_Put_j5 n v.1.2.1 v.1.2.2 v.2⟩
def f_board_Board_Put_e (n : Nat) : Env := en [(147, f_set_Set_Without_c n), (56, f_piece_Side_c n), (90, f_piece_Kind_c n), (148, f_set_Set_With_c n)] [] [(7, f_board_Board_Put_j7_c n), (5, f_board_Board_Put_j5_c n)] []
theorem f_board_Board_Put_a (X : Cx Tryz.prog K Gl) (n : Nat) : FAll Tryz.prog K Gl [(147, f_set_Set_Without_c n), (56, f_piece_Side_c n), (90, f_piece_Kind_c n), (148, f_set_Set_With_c n)] := (fcons (f_set_Set_Without_ok X n) (fcons (f_piece_Side_ok X n) (fcons (f_piece_Kind_ok X n) (fcons (f_set_Set_With_ok X n) fnil))))
theorem f_board_Board_Put_j7_k (n : Nat) (v : (f_board_Board_Put_j7_c n).s.X) : run (f_board_Board_Put_e n) (jbody 7 (bodyOf Tryz.f124)) ((f_board_Board_Put_j7_c n).s.st Tryz.f124.ntmps v) (decS 1 (f_board_Board_Put_j7_c n).x) = (f_board_Board_Put_j7_c n).f v := by kernel_rfl
theorem f_board_Board_Put_j7_o (X : Cx Tryz.prog K Gl) (n : Nat) : SO Tryz.prog K Gl Tryz.f124.ntmps 1 (jbody 7 (bodyOf Tryz.f124)) (f_board_Board_Put_j7_c n) := join_ok (E := f_board_Board_Put_e n) (os := []) X (tok _ _ _ _) rfl (f_board_Board_Put_a X n) snil (by kernel_rfl) rfl (f_board_Board_Put_j7_k n)
theorem f_board_Board_Put_j5_k (n : Nat) (v : (f_board_Board_Put_j5_c n).s.X) : run (f_board_Board_Put_e n) (jbody 5 (bodyOf Tryz.f124)) ((f_board_Board_Put_j5_c n).s.st Tryz.f124.ntmps v) (decS 1 (f_board_Board_Put_j5_c n).x) = (f_board_Board_Put_j5_c n).f v := by kernel_rfl
theorem f_board_Board_Put_j5_o (X : Cx Tryz.prog K Gl) (n : Nat) : SO Tryz.prog K Gl Tryz.f124.ntmps 1 (jbody 5 (bodyOf Tryz.f124)) (f_board_Board_Put_j5_c n) := join_ok (E := f_board_Board_Put_e n) (os := [(jbody 7 (bodyOf Tryz.f124), f_board_Board_Put_j7_c n)]) X (tok _ _ _ _) rfl (f_board_Board_Put_a X n) (scons (f_board_Board_Put_j7_o X n) snil) (by kernel_rfl) rfl (f_board_Board_Put_j5_k n)
theorem f_board_Board_Put_k (n : Nat) (x : (f_board_Board_Put_c n).a.X × (f_board_Board_Put_c n).b.X) : run (f_board_Board_Put_e n) (bodyOf Tryz.f124) (entry Tryz.f124.ntmps ((f_board_Board_Put_c n).a.enc x.1) ((f_board_Board_Put_c n).b.enc x.2)) (kfin (f_board_Board_Put_e n) Tryz.f124 (f_board_Board_Put_c n) (f_board_Board_Put_c n).b.n) = (f_board_Board_Put_c n).f x := by kernel_rfl
theorem f_board_Board_Put_ok (X : Cx Tryz.prog K Gl) (n : Nat) : FOk Tryz.prog K Gl 124 (f_board_Board_Put_c n) := func_ok (E := f_board_Board_Put_e n) (fn := Tryz.f124) (cf := (f_board_Board_Put_c n)) (os := [(jbody 5 (bodyOf Tryz.f124), f_board_Board_Put_j5_c n)]) X (tok _ _ _ _) rfl (f_board_Board_Put_a X n) (scons (f_board_Board_Put_j5_o X n) snil) (by kernel_rfl) Tryz.func124 (by kernel_rfl) (f_board_Board_Put_k n)
def f_board_New_l0_s (n : Nat) (r : List Int → Int → (List Int × List (Int × Int × Unit) × List (Int × Int × Unit) × Unit) → Option (Unit × List Int × List (Int × Int × Unit) × List (Int × Int × Unit) × Unit)) (t1 : List Int) (t2 : Int) (h3 : List Int × List (Int × Int × Unit) × List (Int × Int × Unit) × Unit) : Option (Unit × List Int × List (Int × Int × Unit) × List (Int × Int × Unit) × Unit) :=
 Br (lt t2 81)
  (Br (inr t2 81)
   (ob (f_board_Board_Put n t2 (t1.getD t2.toNat 0) h3) fun y5 =>
   r t1 (wa .i64 t2 1) y5.2.1)
   (none))
  (some ((), h3))
def f_board_New_l0_i (n : Nat) : Nat → List Int → Int → (List Int × List (Int × Int × Unit) × List (Int × Int × Unit) × Unit) → Option (Unit × List Int × List (Int × Int × Unit) × List (Int × Int × Unit) × Unit)
 | 0, _, _, _ => none
 | m + 1, t1, t2, h3 => f_board_New_l0_s n (f_board_New_l0_i n m) t1 t2 h3
def f_board_New_l0 (n : Nat) := f_board_New_l0_i n n
def f_board_New (n : Nat) (p0 : List Int) : Option (Unit × Unit × (List Int × List (Int × Int × Unit) × List (Int × Int × Unit) × Unit)) :=
 ob (f_board_New_l0 n (p0.take 81) 0 (((List.replicate 98 0).take 81 ++ ((p0.drop 81).take 16) ++ (List.replicate 98 0).drop (97)).set 97 (p0.getD 97 0), List.replicate 32 (0, 0, ()), List.replicate 2 (0, 0, ()), ())) fun y7 =>
 some (y7.1, (), y7.2)
def f_board_New_c (n : Nat) : Cf := ⟨.t (.a .i8 98) [], .e, [⟨.t (.r .p) [.p 0], .e, .o (.p (.a .i8 98) (.p (.l 32 (.p (.i .u64) (.p (.i .u64) (.u)))) (.p (.l 2 (.p (.i .u64) (.p (.i .u64) (.u)))) (.u)))) []⟩], fun x => f_board_New n x.1⟩
def f_board_New_l0_c (n : Nat) : Cs := ⟨0, [], ⟨[3, 21, 22], .c (.t (.r .p) [.p 0]) (.c (.t (.a .i8 81) []) (.t (.i .i64) [])), .o (.p (.a .i8 98) (.p (.l 32 (.p (.i .u64) (.p (.i .u64) (.u)))) (.p (.l 2 (.p (.i .u64) (.p (.i .u64) (.u)))) (.u)))) []⟩, [⟨0, ⟨[3], .t (.r .p) [.p 0], .o (.p (.a .i8 98) (.p (.l 32 (.p (.i .u64) (.p (.i .u64) (.u)))) (.p (.l 2 (.p (.i .u64) (.p (.i .u64) (.u)))) (.u)))) []⟩⟩], fun v => f_board_New_l0 n v.1.2.1 v.1.2.2 v.2⟩
def f_board_New_e (n : Nat) : Env := en [(124, f_board_Board_Put_c n)] [(2, [1])] [] [(0, f_board_New_l0_c n)]
theorem f_board_New_a (X : Cx Tryz.prog K Gl) (n : Nat) : FAll Tryz.prog K Gl [(124, f_board_Board_Put_c n)] := (fcons (f_board_Board_Put_ok X n) fnil)
theorem f_board_New_l0_k (n : Nat) (p : Nat) (v : (f_board_New_l0_c n).s.X) : run (f_board_New_e n) (lbody 0 (bodyOf Tryz.f101)) ((f_board_New_l0_c n).s.st Tryz.f101.ntmps v) (kloop 0 (f_board_New_l0_c n) (fun v => f_board_New_l0_i n p v.1.2.1 v.1.2.2 v.2)) = f_board_New_l0_i n (p + 1) v.1.2.1 v.1.2.2 v.2 := by kernel_rfl
theorem f_board_New_l0_o (X : Cx Tryz.prog K Gl) (n : Nat) : SO Tryz.prog K Gl Tryz.f101.ntmps 0 (.block 0 (.loop (lbody 0 (bodyOf Tryz.f101)))) (f_board_New_l0_c n) := loop_ok (E := f_board_New_e n) (os := []) (s := f_board_New_l0_c n) (n := n) X (tok _ _ _ _) rfl (f_board_New_a X n) snil (by kernel_rfl) rfl (fun p (v : (f_board_New_l0_c n).s.X) => f_board_New_l0_i n p v.1.2.1 v.1.2.2 v.2) (fun _ => rfl) (f_board_New_l0_k n) (fun _ => rfl)
theorem f_board_New_k (n : Nat) (x : (f_board_New_c n).a.X × (f_board_New_c n).b.X) : run (f_board_New_e n) (bodyOf Tryz.f101) (entry Tryz.f101.ntmps ((f_board_New_c n).a.enc x.1) ((f_board_New_c n).b.enc x.2)) (kfin (f_board_New_e n) Tryz.f101 (f_board_New_c n) (f_board_New_c n).b.n) = (f_board_New_c n).f x := by kernel_rfl
theorem f_board_New_ok (X : Cx Tryz.prog K Gl) (n : Nat) : FOk Tryz.prog K Gl 101 (f_board_New_c n) := func_ok (E := f_board_New_e n) (fn := Tryz.f101) (cf := (f_board_New_c n)) (os := [(.block 0 (.loop (lbody 0 (bodyOf Tryz.f101))), f_board_New_l0_c n)]) X (tok _ _ _ _) rfl (f_board_New_a X n) (scons (f_board_New_l0_o X n) snil) (by kernel_rfl) Tryz.func101 (by kernel_rfl) (f_board_New_k n)
def f_board_Board_Of (side1 : Int) (kind2 : Int) (b0 : List (List Int × List (Int × Int × Unit) × List (Int × Int × Unit) × Unit)) : Option ((Int × Int × Unit) × (List (List Int × List (Int × Int × Unit) × List (Int × Int × Unit) × Unit)) × Unit) :=
 ob (f_piece_Of side1 kind2) fun y2 =>
 Br (eq y2.1 0)
  (some ((0, 0, ()), b0, ()))
  (Br (inr y2.1 32)
   (some ((b0.getD 0 (List.replicate 98 0, List.replicate 32 (0, 0, ()), List.replicate 2 (0, 0, ()), ())).2.1.getD y2.1.toNat (0, 0, ()), b0, ()))
   (none))
def f_board_Board_Of_c (n : Nat) : Cf := ⟨.c (.ip 0 [.i 0]) (.c (.t (.i .i64) []) (.t (.i .i64) [])), .w 0 (.p (.a .i8 98) (.p (.l 32 (.p (.i .u64) (.p (.i .u64) (.u)))) (.p (.l 2 (.p (.i .u64) (.p (.i .u64) (.u)))) (.u)))) false, [⟨.t (.p (.i .u64) (.p (.i .u64) (.u))) [], .w 0 (.p (.a .i8 98) (.p (.l 32 (.p (.i .u64) (.p (.i .u64) (.u)))) (.p (.l 2 (.p (.i .u64) (.p (.i .u64) (.u)))) (.u)))) false, .e⟩], fun x => f_board_Board_Of x.1.2.1 x.1.2.2 x.2⟩
def f_board_Board_Of_e (n : Nat) : Env := en [(42, f_piece_Of_c n)] [] [] []
theorem f_board_Board_Of_a (X : Cx Tryz.prog K Gl) (n : Nat) : FAll Tryz.prog K Gl [(42, f_piece_Of_c n)] := (fcons (f_piece_Of_ok X n) fnil)
theorem f_board_Board_Of_k (n : Nat) (x : (f_board_Board_Of_c n).a.X × (f_board_Board_Of_c n).b.X) : run (f_board_Board_Of_e n) (bodyOf Tryz.f140) (entry Tryz.f140.ntmps ((f_board_Board_Of_c n).a.enc x.1) ((f_board_Board_Of_c n).b.enc x.2)) (kfin (f_board_Board_Of_e n) Tryz.f140 (f_board_Board_Of_c n) (f_board_Board_Of_c n).b.n) = (f_board_Board_Of_c n).f x := by kernel_rfl
theorem f_board_Board_Of_ok (X : Cx Tryz.prog K Gl) (n : Nat) : FOk Tryz.prog K Gl 140 (f_board_Board_Of_c n) := func_ok (E := f_board_Board_Of_e n) (fn := Tryz.f140) (cf := (f_board_Board_Of_c n)) (os := []) X (tok _ _ _ _) rfl (f_board_Board_Of_a X n) snil (by kernel_rfl) Tryz.func140 (by kernel_rfl) (f_board_Board_Of_k n)
def f_set_InFile_l0_s (n : Nat) (r : Int → Int → (Int × Int × Unit) → (Int × Int × Unit) → Option ((Unit × Unit) × (Int × Int × Unit) × Int × Int × Unit)) (file1 : Int) (t2 : Int) (h3 : Int × Int × Unit) (h4 : Int × Int × Unit) : Option ((Unit × Unit) × (Int × Int × Unit) × Int × Int × Unit) :=
 Br (lt t2 9)
  (ob (f_set_Square file1 t2) fun y7 =>
  ob (f_set_Set_With h4 y7.1) fun y8 =>
  r file1 (wa .i64 t2 1) h3 y8.1)
  (some (((), ()), h3, h4))
def f_set_InFile_l0_i (n : Nat) : Nat → Int → Int → (Int × Int × Unit) → (Int × Int × Unit) → Option ((Unit × Unit) × (Int × Int × Unit) × Int × Int × Unit)
 | 0, _, _, _, _ => none
 | m + 1, file1, t2, h3, h4 => f_set_InFile_l0_s n (f_set_InFile_l0_i n m) file1 t2 h3 h4
def f_set_InFile_l0 (n : Nat) := f_set_InFile_l0_i n n
def f_set_InFile (n : Nat) (file0 : Int) : Option ((Int × Int × Unit) × Unit × Unit) :=
 ob (f_set_InFile_l0 n file0 0 (0, 0, ()) (0, 0, ())) fun y10 =>
 some (y10.2.2, (), ())
def f_set_InFile_c (n : Nat) : Cf := ⟨.t (.i .i64) [], .e, [⟨.t (.p (.i .u64) (.p (.i .u64) (.u))) [], .e, .e⟩], fun x => f_set_InFile n x.1⟩
def f_set_InFile_l0_c (n : Nat) : Cs := ⟨0, [], ⟨[0, 2, 3, 5], .c (.t (.i .i64) []) (.c (.t (.r .p) [.p 0]) (.c (.t (.r .p) [.p 1]) (.t (.i .i64) []))), .c (.o (.p (.i .u64) (.p (.i .u64) (.u))) []) (.o (.p (.i .u64) (.p (.i .u64) (.u))) [])⟩, [⟨0, ⟨[2, 3], .c (.t (.r .p) [.p 0]) (.t (.r .p) [.p 1]), .c (.o (.p (.i .u64) (.p (.i .u64) (.u))) []) (.o (.p (.i .u64) (.p (.i .u64) (.u))) [])⟩⟩], fun v => f_set_InFile_l0 n v.1.1 v.1.2.2.2 v.2.1 v.2.2⟩
def f_set_InFile_e (n : Nat) : Env := en [(41, f_set_Square_c n), (148, f_set_Set_With_c n)] [] [] [(0, f_set_InFile_l0_c n)]
theorem f_set_InFile_a (X : Cx Tryz.prog K Gl) (n : Nat) : FAll Tryz.prog K Gl [(41, f_set_Square_c n), (148, f_set_Set_With_c n)] := (fcons (f_set_Square_ok X n) (fcons (f_set_Set_With_ok X n) fnil))
theorem f_set_InFile_l0_k (n : Nat) (p : Nat) (v : (f_set_InFile_l0_c n).s.X) : run (f_set_InFile_e n) (lbody 0 (bodyOf Tryz.f142)) ((f_set_InFile_l0_c n).s.st Tryz.f142.ntmps v) (kloop 0 (f_set_InFile_l0_c n) (fun v => f_set_InFile_l0_i n p v.1.1 v.1.2.2.2 v.2.1 v.2.2)) = f_set_InFile_l0_i n (p + 1) v.1.1 v.1.2.2.2 v.2.1 v.2.2 := by kernel_rfl
theorem f_set_InFile_l0_o (X : Cx Tryz.prog K Gl) (n : Nat) : SO Tryz.prog K Gl Tryz.f142.ntmps 0 (.block 0 (.loop (lbody 0 (bodyOf Tryz.f142)))) (f_set_InFile_l0_c n) := loop_ok (E := f_set_InFile_e n) (os := []) (s := f_set_InFile_l0_c n) (n := n) X (tok _ _ _ _) rfl (f_set_InFile_a X n) snil (by kernel_rfl) rfl (fun p (v : (f_set_InFile_l0_c n).s.X) => f_set_InFile_l0_i n p v.1.1 v.1.2.2.2 v.2.1 v.2.2) (fun _ => rfl) (f_set_InFile_l0_k n) (fun _ => rfl)
theorem f_set_InFile_k (n : Nat) (x : (f_set_InFile_c n).a.X × (f_set_InFile_c n).b.X) : run (f_set_InFile_e n) (bodyOf Tryz.f142) (entry Tryz.f142.ntmps ((f_set_InFile_c n).a.enc x.1) ((f_set_InFile_c n).b.enc x.2)) (kfin (f_set_InFile_e n) Tryz.f142 (f_set_InFile_c n) (f_set_InFile_c n).b.n) = (f_set_InFile_c n).f x := by kernel_rfl
theorem f_set_InFile_ok (X : Cx Tryz.prog K Gl) (n : Nat) : FOk Tryz.prog K Gl 142 (f_set_InFile_c n) := func_ok (E := f_set_InFile_e n) (fn := Tryz.f142) (cf := (f_set_InFile_c n)) (os := [(.block 0 (.loop (lbody 0 (bodyOf Tryz.f142))), f_set_InFile_l0_c n)]) X (tok _ _ _ _) rfl (f_set_InFile_a X n) (scons (f_set_InFile_l0_o X n) snil) (by kernel_rfl) Tryz.func142 (by kernel_rfl) (f_set_InFile_k n)
def f_set_Set_And (s0 : Int × Int × Unit) (t1 : Int × Int × Unit) : (Int × Int × Unit) × Unit × Unit :=
 ((ban .u64 s0.1 t1.1, ban .u64 s0.2.1 t1.2.1, ()), (), ())
def f_set_Set_And_c (n : Nat) : Cf := ⟨.c (.t (.p (.i .u64) (.p (.i .u64) (.u))) []) (.t (.p (.i .u64) (.p (.i .u64) (.u))) []), .e, [⟨.t (.p (.i .u64) (.p (.i .u64) (.u))) [], .e, .e⟩], fun x => some (f_set_Set_And x.1.1 x.1.2)⟩
def f_set_Set_And_e (n : Nat) : Env := en [] [] [] []
theorem f_set_Set_And_a (X : Cx Tryz.prog K Gl) (n : Nat) : FAll Tryz.prog K Gl [] := fnil
theorem f_set_Set_And_k (n : Nat) (x : (f_set_Set_And_c n).a.X × (f_set_Set_And_c n).b.X) : run (f_set_Set_And_e n) (bodyOf Tryz.f141) (entry Tryz.f141.ntmps ((f_set_Set_And_c n).a.enc x.1) ((f_set_Set_And_c n).b.enc x.2)) (kfin (f_set_Set_And_e n) Tryz.f141 (f_set_Set_And_c n) (f_set_Set_And_c n).b.n) = (f_set_Set_And_c n).f x := by kernel_rfl
theorem f_set_Set_And_ok (X : Cx Tryz.prog K Gl) (n : Nat) : FOk Tryz.prog K Gl 141 (f_set_Set_And_c n) := func_ok (E := f_set_Set_And_e n) (fn := Tryz.f141) (cf := (f_set_Set_And_c n)) (os := []) X (tok _ _ _ _) rfl (f_set_Set_And_a X n) snil (by kernel_rfl) Tryz.func141 (by kernel_rfl) (f_set_Set_And_k n)
def f_math_bits_OnesCount64 (x0 : Int) : Int × Unit × Unit :=
 (ban .i64 (wr .i64 (wa .u64 (wa .u64 (wa .u64 (ban .u64 (wa .u64 (shr .u64 (wa .u64 (ban .u64 (shr .u64 (wa .u64 (ban .u64 (shr .u64 x0 1) 6148914691236517205) (ban .u64 x0 6148914691236517205)) 2) 3689348814741910323) (ban .u64 (wa .u64 (ban .u64 (shr .u64 x0 1) 6148914691236517205) (ban .u64 x0 6148914691236517205)) 3689348814741910323)) 4) (wa .u64 (ban .u64 (shr .u64 (wa .u64 (ban .u64 (shr .u64 x0 1) 6148914691236517205) (ban .u64 x0 6148914691236517205)) 2) 3689348814741910323) (ban .u64 (wa .u64 (ban .u64 (shr .u64 x0 1) 6148914691236517205) (ban .u64 x0 6148914691236517205)) 3689348814741910323))) 1085102592571150095) (shr .u64 (ban .u64 (wa .u64 (shr .u64 (wa .u64 (ban .u64 (shr .u64 (wa .u64 (ban .u64 (shr .u64 x0 1) 6148914691236517205) (ban .u64 x0 6148914691236517205)) 2) 3689348814741910323) (ban .u64 (wa .u64 (ban .u64 (shr .u64 x0 1) 6148914691236517205) (ban .u64 x0 6148914691236517205)) 3689348814741910323)) 4) (wa .u64 (ban .u64 (shr .u64 (wa .u64 (ban .u64 (shr .u64 x0 1) 6148914691236517205) (ban .u64 x0 6148914691236517205)) 2) 3689348814741910323) (ban .u64 (wa .u64 (ban .u64 (shr .u64 x0 1) 6148914691236517205) (ban .u64 x0 6148914691236517205)) 3689348814741910323))) 1085102592571150095) 8)) (shr .u64 (wa .u64 (ban .u64 (wa .u64 (shr .u64 (wa .u64 (ban .u64 (shr .u64 (wa .u64 (ban .u64 (shr .u64 x0 1) 6148914691236517205) (ban .u64 x0 6148914691236517205)) 2) 3689348814741910323) (ban .u64 (wa .u64 (ban .u64 (shr .u64 x0 1) 6148914691236517205) (ban .u64 x0 6148914691236517205)) 3689348814741910323)) 4) (wa .u64 (ban .u64 (shr .u64 (wa .u64 (ban .u64 (shr .u64 x0 1) 6148914691236517205) (ban .u64 x0 6148914691236517205)) 2) 3689348814741910323) (ban .u64 (wa .u64 (ban .u64 (shr .u64 x0 1) 6148914691236517205) (ban .u64 x0 6148914691236517205)) 3689348814741910323))) 1085102592571150095) (shr .u64 (ban .u64 (wa .u64 (shr .u64 (wa .u64 (ban .u64 (shr .u64 (wa .u64 (ban .u64 (shr .u64 x0 1) 6148914691236517205) (ban .u64 x0 6148914691236517205)) 2) 3689348814741910323) (ban .u64 (wa .u64 (ban .u64 (shr .u64 x0 1) 6148914691236517205) (ban .u64 x0 6148914691236517205)) 3689348814741910323)) 4) (wa .u64 (ban .u64 (shr .u64 (wa .u64 (ban .u64 (shr .u64 x0 1) 6148914691236517205) (ban .u64 x0 6148914691236517205)) 2) 3689348814741910323) (ban .u64 (wa .u64 (ban .u64 (shr .u64 x0 1) 6148914691236517205) (ban .u64 x0 6148914691236517205)) 3689348814741910323))) 1085102592571150095) 8)) 16)) (shr .u64 (wa .u64 (wa .u64 (ban .u64 (wa .u64 (shr .u64 (wa .u64 (ban .u64 (shr .u64 (wa .u64 (ban .u64 (shr .u64 x0 1) 6148914691236517205) (ban .u64 x0 6148914691236517205)) 2) 3689348814741910323) (ban .u64 (wa .u64 (ban .u64 (shr .u64 x0 1) 6148914691236517205) (ban .u64 x0 6148914691236517205)) 3689348814741910323)) 4) (wa .u64 (ban .u64 (shr .u64 (wa .u64 (ban .u64 (shr .u64 x0 1) 6148914691236517205) (ban .u64 x0 6148914691236517205)) 2) 3689348814741910323) (ban .u64 (wa .u64 (ban .u64 (shr .u64 x0 1) 6148914691236517205) (ban .u64 x0 6148914691236517205)) 3689348814741910323))) 1085102592571150095) (shr .u64 (ban .u64 (wa .u64 (shr .u64 (wa .u64 (ban .u64 (shr .u64 (wa .u64 (ban .u64 (shr .u64 x0 1) 6148914691236517205) (ban .u64 x0 6148914691236517205)) 2) 3689348814741910323) (ban .u64 (wa .u64 (ban .u64 (shr .u64 x0 1) 6148914691236517205) (ban .u64 x0 6148914691236517205)) 3689348814741910323)) 4) (wa .u64 (ban .u64 (shr .u64 (wa .u64 (ban .u64 (shr .u64 x0 1) 6148914691236517205) (ban .u64 x0 6148914691236517205)) 2) 3689348814741910323) (ban .u64 (wa .u64 (ban .u64 (shr .u64 x0 1) 6148914691236517205) (ban .u64 x0 6148914691236517205)) 3689348814741910323))) 1085102592571150095) 8)) (shr .u64 (wa .u64 (ban .u64 (wa .u64 (shr .u64 (wa .u64 (ban .u64 (shr .u64 (wa .u64 (ban .u64 (shr .u64 x0 1) 6148914691236517205) (ban .u64 x0 6148914691236517205)) 2) 3689348814741910323) (ban .u64 (wa .u64 (ban .u64 (shr .u64 x0 1) 6148914691236517205) (ban .u64 x0 6148914691236517205)) 3689348814741910323)) 4) (wa .u64 (ban .u64 (shr .u64 (wa .u64 (ban .u64 (shr .u64 x0 1) 6148914691236517205) (ban .u64 x0 6148914691236517205)) 2) 3689348814741910323) (ban .u64 (wa .u64 (ban .u64 (shr .u64 x0 1) 6148914691236517205) (ban .u64 x0 6148914691236517205)) 3689348814741910323))) 1085102592571150095) (shr .u64 (ban .u64 (wa .u64 (shr .u64 (wa .u64 (ban .u64 (shr .u64 (wa .u64 (ban .u64 (shr .u64 x0 1) 6148914691236517205) (ban .u64 x0 6148914691236517205)) 2) 3689348814741910323) (ban .u64 (wa .u64 (ban .u64 (shr .u64 x0 1) 6148914691236517205) (ban .u64 x0 6148914691236517205)) 3689348814741910323)) 4) (wa .u64 (ban .u64 (shr .u64 (wa .u64 (ban .u64 (shr .u64 x0 1) 6148914691236517205) (ban .u64 x0 6148914691236517205)) 2) 3689348814741910323) (ban .u64 (wa .u64 (ban .u64 (shr .u64 x0 1) 6148914691236517205) (ban .u64 x0 6148914691236517205)) 3689348814741910323))) 1085102592571150095) 8)) 16)) 32))) 127, (), ())
def f_math_bits_OnesCount64_c (n : Nat) : Cf := ⟨.t (.i .u64) [], .e, [⟨.t (.i .i64) [], .e, .e⟩], fun x => some (f_math_bits_OnesCount64 x.1)⟩
def f_math_bits_OnesCount64_e (n : Nat) : Env := en [] [] [] []
theorem f_math_bits_OnesCount64_a (X : Cx Tryz.prog K Gl) (n : Nat) : FAll Tryz.prog K Gl [] := fnil
theorem f_math_bits_OnesCount64_k (n : Nat) (x : (f_math_bits_OnesCount64_c n).a.X × (f_math_bits_OnesCount64_c n).b.X) : run (f_math_bits_OnesCount64_e n) (bodyOf Tryz.f160) (entry Tryz.f160.ntmps ((f_math_bits_OnesCount64_c n).a.enc x.1) ((f_math_bits_OnesCount64_c n).b.enc x.2)) (kfin (f_math_bits_OnesCount64_e n) Tryz.f160 (f_math_bits_OnesCount64_c n) (f_math_bits_OnesCount64_c n).b.n) = (f_math_bits_OnesCount64_c n).f x := by kernel_rfl
theorem f_math_bits_OnesCount64_ok (X : Cx Tryz.prog K Gl) (n : Nat) : FOk Tryz.prog K Gl 160 (f_math_bits_OnesCount64_c n) := func_ok (E := f_math_bits_OnesCount64_e n) (fn := Tryz.f160) (cf := (f_math_bits_OnesCount64_c n)) (os := []) X (tok _ _ _ _) rfl (f_math_bits_OnesCount64_a X n) snil (by kernel_rfl) Tryz.func160 (by kernel_rfl) (f_math_bits_OnesCount64_k n)
def f_set_Set_Count (s0 : Int × Int × Unit) : Int × Unit × Unit :=
 (wa .i64 (f_math_bits_OnesCount64 s0.1).1 (f_math_bits_OnesCount64 s0.2.1).1, (), ())
def f_set_Set_Count_c (n : Nat) : Cf := ⟨.t (.p (.i .u64) (.p (.i .u64) (.u))) [], .e, [⟨.t (.i .i64) [], .e, .e⟩], fun x => some (f_set_Set_Count x.1)⟩
def f_set_Set_Count_e (n : Nat) : Env := en [(160, f_math_bits_OnesCount64_c n)] [] [] []
theorem f_set_Set_Count_a (X : Cx Tryz.prog K Gl) (n : Nat) : FAll Tryz.prog K Gl [(160, f_math_bits_OnesCount64_c n)] := (fcons (f_math_bits_OnesCount64_ok X n) fnil)
theorem f_set_Set_Count_k (n : Nat) (x : (f_set_Set_Count_c n).a.X × (f_set_Set_Count_c n).b.X) : run (f_set_Set_Count_e n) (bodyOf Tryz.f143) (entry Tryz.f143.ntmps ((f_set_Set_Count_c n).a.enc x.1) ((f_set_Set_Count_c n).b.enc x.2)) (kfin (f_set_Set_Count_e n) Tryz.f143 (f_set_Set_Count_c n) (f_set_Set_Count_c n).b.n) = (f_set_Set_Count_c n).f x := by kernel_rfl
theorem f_set_Set_Count_ok (X : Cx Tryz.prog K Gl) (n : Nat) : FOk Tryz.prog K Gl 143 (f_set_Set_Count_c n) := func_ok (E := f_set_Set_Count_e n) (fn := Tryz.f143) (cf := (f_set_Set_Count_c n)) (os := []) X (tok _ _ _ _) rfl (f_set_Set_Count_a X n) snil (by kernel_rfl) Tryz.func143 (by kernel_rfl) (f_set_Set_Count_k n)
def f_board_files_l0_s (n : Nat) (r : List Int → Int → List Int → Option ((Int × Unit) ⊕ (Unit × List Int))) (t1 : List Int) (t2 : Int) (h3 : List Int) : Option ((Int × Unit) ⊕ (Unit × List Int)) :=
 Br (lt t2 81)
  (Br (inr t2 81)
   (ob (f_step_Dead (t1.getD t2.toNat 0) t2) fun y5 =>
   Br (y5.1)
    (some (.inl (52, ())))
    (r t1 (wa .i64 t2 1) h3))
   (none))
  (some (.inr ((), h3)))
def f_board_files_l0_i (n : Nat) : Nat → List Int → Int → List Int → Option ((Int × Unit) ⊕ (Unit × List Int))
 | 0, _, _, _ => none
 | m + 1, t1, t2, h3 => f_board_files_l0_s n (f_board_files_l0_i n m) t1 t2 h3
def f_board_files_l0 (n : Nat) := f_board_files_l0_i n n
def f_board_files_l4_s (n : Nat) (r : Int → Int → Int → (List Int × List (Int × Int × Unit) × List (Int × Int × Unit) × Unit) → Option ((Int × Unit) ⊕ ((Unit × Int) × List Int × List (Int × Int × Unit) × List (Int × Int × Unit) × Unit))) (f16 : Int) (t17 : Int) (t18 : Int) (h19 : List Int × List (Int × Int × Unit) × List (Int × Int × Unit) × Unit) : Option ((Int × Unit) ⊕ ((Unit × Int) × List Int × List (Int × Int × Unit) × List (Int × Int × Unit) × Unit)) :=
 Br (lt t18 2)
  (ob (f_board_Board_Of t18 1 [h19]) fun y22 =>
  ob (f_set_InFile n f16) fun y23 =>
  Br (lt 1 (f_set_Set_Count (f_set_Set_And y22.1 y23.1).1).1)
   (some (.inl (53, ())))
   (r f16 t17 (wa .i64 t18 1) h19))
  (some (.inr (((), t17), h19)))
def f_board_files_l4_i (n : Nat) : Nat → Int → Int → Int → (List Int × List (Int × Int × Unit) × List (Int × Int × Unit) × Unit) → Option ((Int × Unit) ⊕ ((Unit × Int) × List Int × List (Int × Int × Unit) × List (Int × Int × Unit) × Unit))
 | 0, _, _, _, _ => none
 | m + 1, f16, t17, t18, h19 => f_board_files_l4_s n (f_board_files_l4_i n m) f16 t17 t18 h19
def f_board_files_l4 (n : Nat) := f_board_files_l4_i n n
def f_board_files_l2_s (n : Nat) (r : Int → (List Int × List (Int × Int × Unit) × List (Int × Int × Unit) × Unit) → Option ((Int × Unit) ⊕ (Unit × Unit))) (t14 : Int) (h15 : List Int × List (Int × Int × Unit) × List (Int × Int × Unit) × Unit) : Option ((Int × Unit) ⊕ (Unit × Unit)) :=
 Br (lt t14 9)
  (ob (f_board_files_l4 n t14 t14 0 h15) fun y27 =>
  sm y27 (fun y28 =>
   some (.inl (y28.1, ())))
   (fun y29 =>
   r (wa .i64 y29.1.2 1) y29.2))
  (some (.inr ((), ())))
def f_board_files_l2_i (n : Nat) : Nat → Int → (List Int × List (Int × Int × Unit) × List (Int × Int × Unit) × Unit) → Option ((Int × Unit) ⊕ (Unit × Unit))
 | 0, _, _ => none
 | m + 1, t14, h15 => f_board_files_l2_s n (f_board_files_l2_i n m) t14 h15
def f_board_files_l2 (n : Nat) := f_board_files_l2_i n n
def f_board_files (n : Nat) (p0 : List Int) : Option (Int × Unit × Unit) :=
 ob (f_board_files_l0 n (p0.take 81) 0 p0) fun y9 =>
 sm y9 (fun y10 =>
  some (y10.1, (), ()))
  (fun y11 =>
  ob (f_board_New n y11.2) fun y13 =>
  ob (f_board_files_l2 n 0 y13.2.2) fun y33 =>
  sm y33 (fun y34 =>
   some (y34.1, (), ()))
   (fun y35 =>
   some (0, (), ())))
def f_board_files_c (n : Nat) : Cf := ⟨.t (.a .i8 98) [], .e, [⟨.t (.i .i64) [], .e, .e⟩], fun x => f_board_files n x.1⟩
def f_board_files_l0_c (n : Nat) : Cs := ⟨0, [], ⟨[1, 9, 10], .c (.t (.r .p) [.p 0]) (.c (.t (.a .i8 81) []) (.t (.i .i64) [])), .o (.a .i8 98) []⟩, [⟨1, ⟨[2], .t (.i .i64) [], .e⟩⟩, ⟨0, ⟨[1], .t (.r .p) [.p 0], .o (.a .i8 98) []⟩⟩], fun v => f_board_files_l0 n v.1.2.1 v.1.2.2 v.2⟩
def f_board_files_l4_c (n : Nat) : Cs := ⟨0, [], ⟨[5, 6, 20, 23], .c (.t (.r .p) [.p 0]) (.c (.t (.i .i64) []) (.c (.t (.i .i64) []) (.t (.i .i64) []))), .o (.p (.a .i8 98) (.p (.l 32 (.p (.i .u64) (.p (.i .u64) (.u)))) (.p (.l 2 (.p (.i .u64) (.p (.i .u64) (.u)))) (.u)))) []⟩, [⟨1, ⟨[2], .t (.i .i64) [], .e⟩⟩, ⟨0, ⟨[5, 20], .c (.t (.r .p) [.p 0]) (.t (.i .i64) []), .o (.p (.a .i8 98) (.p (.l 32 (.p (.i .u64) (.p (.i .u64) (.u)))) (.p (.l 2 (.p (.i .u64) (.p (.i .u64) (.u)))) (.u)))) []⟩⟩], fun v => f_board_files_l4 n v.1.2.1 v.1.2.2.1 v.1.2.2.2 v.2⟩
def f_board_files_l2_c (n : Nat) : Cs := ⟨0, [], ⟨[5, 20], .c (.t (.r .p) [.p 0]) (.t (.i .i64) []), .o (.p (.a .i8 98) (.p (.l 32 (.p (.i .u64) (.p (.i .u64) (.u)))) (.p (.l 2 (.p (.i .u64) (.p (.i .u64) (.u)))) (.u)))) []⟩, [⟨1, ⟨[2], .t (.i .i64) [], .e⟩⟩, ⟨0, ⟨[], .e, .e⟩⟩], fun v => f_board_files_l2 n v.1.2 v.2⟩
def f_board_files_e (n : Nat) : Env := en [(139, f_step_Dead_c n), (101, f_board_New_c n), (140, f_board_Board_Of_c n), (142, f_set_InFile_c n), (141, f_set_Set_And_c n), (143, f_set_Set_Count_c n)] [] [] [(0, f_board_files_l0_c n), (4, f_board_files_l4_c n), (2, f_board_files_l2_c n)]
theorem f_board_files_a (X : Cx Tryz.prog K Gl) (n : Nat) : FAll Tryz.prog K Gl [(139, f_step_Dead_c n), (101, f_board_New_c n), (140, f_board_Board_Of_c n), (142, f_set_InFile_c n), (141, f_set_Set_And_c n), (143, f_set_Set_Count_c n)] := (fcons (f_step_Dead_ok X n) (fcons (f_board_New_ok X n) (fcons (f_board_Board_Of_ok X n) (fcons (f_set_InFile_ok X n) (fcons (f_set_Set_And_ok X n) (fcons (f_set_Set_Count_ok X n) fnil))))))
theorem f_board_files_l0_k (n : Nat) (p : Nat) (v : (f_board_files_l0_c n).s.X) : run (f_board_files_e n) (lbody 0 (bodyOf Tryz.f121)) ((f_board_files_l0_c n).s.st Tryz.f121.ntmps v) (kloop 0 (f_board_files_l0_c n) (fun v => f_board_files_l0_i n p v.1.2.1 v.1.2.2 v.2)) = f_board_files_l0_i n (p + 1) v.1.2.1 v.1.2.2 v.2 := by kernel_rfl
theorem f_board_files_l0_o (X : Cx Tryz.prog K Gl) (n : Nat) : SO Tryz.prog K Gl Tryz.f121.ntmps 0 (.block 0 (.loop (lbody 0 (bodyOf Tryz.f121)))) (f_board_files_l0_c n) := loop_ok (E := f_board_files_e n) (os := []) (s := f_board_files_l0_c n) (n := n) X (tok _ _ _ _) rfl (f_board_files_a X n) snil (by kernel_rfl) rfl (fun p (v : (f_board_files_l0_c n).s.X) => f_board_files_l0_i n p v.1.2.1 v.1.2.2 v.2) (fun _ => rfl) (f_board_files_l0_k n) (fun _ => rfl)
theorem f_board_files_l4_k (n : Nat) (p : Nat) (v : (f_board_files_l4_c n).s.X) : run (f_board_files_e n) (lbody 4 (bodyOf Tryz.f121)) ((f_board_files_l4_c n).s.st Tryz.f121.ntmps v) (kloop 4 (f_board_files_l4_c n) (fun v => f_board_files_l4_i n p v.1.2.1 v.1.2.2.1 v.1.2.2.2 v.2)) = f_board_files_l4_i n (p + 1) v.1.2.1 v.1.2.2.1 v.1.2.2.2 v.2 := by kernel_rfl
theorem f_board_files_l4_o (X : Cx Tryz.prog K Gl) (n : Nat) : SO Tryz.prog K Gl Tryz.f121.ntmps 0 (.block 4 (.loop (lbody 4 (bodyOf Tryz.f121)))) (f_board_files_l4_c n) := loop_ok (E := f_board_files_e n) (os := []) (s := f_board_files_l4_c n) (n := n) X (tok _ _ _ _) rfl (f_board_files_a X n) snil (by kernel_rfl) rfl (fun p (v : (f_board_files_l4_c n).s.X) => f_board_files_l4_i n p v.1.2.1 v.1.2.2.1 v.1.2.2.2 v.2) (fun _ => rfl) (f_board_files_l4_k n) (fun _ => rfl)
theorem f_board_files_l2_k (n : Nat) (p : Nat) (v : (f_board_files_l2_c n).s.X) : run (f_board_files_e n) (lbody 2 (bodyOf Tryz.f121)) ((f_board_files_l2_c n).s.st Tryz.f121.ntmps v) (kloop 2 (f_board_files_l2_c n) (fun v => f_board_files_l2_i n p v.1.2 v.2)) = f_board_files_l2_i n (p + 1) v.1.2 v.2 := by kernel_rfl
theorem f_board_files_l2_o (X : Cx Tryz.prog K Gl) (n : Nat) : SO Tryz.prog K Gl Tryz.f121.ntmps 0 (.block 2 (.loop (lbody 2 (bodyOf Tryz.f121)))) (f_board_files_l2_c n) := loop_ok (E := f_board_files_e n) (os := [(.block 4 (.loop (lbody 4 (bodyOf Tryz.f121))), f_board_files_l4_c n)]) (s := f_board_files_l2_c n) (n := n) X (tok _ _ _ _) rfl (f_board_files_a X n) (scons (f_board_files_l4_o X n) snil) (by kernel_rfl) rfl (fun p (v : (f_board_files_l2_c n).s.X) => f_board_files_l2_i n p v.1.2 v.2) (fun _ => rfl) (f_board_files_l2_k n) (fun _ => rfl)
theorem f_board_files_k (n : Nat) (x : (f_board_files_c n).a.X × (f_board_files_c n).b.X) : run (f_board_files_e n) (bodyOf Tryz.f121) (entry Tryz.f121.ntmps ((f_board_files_c n).a.enc x.1) ((f_board_files_c n).b.enc x.2)) (kfin (f_board_files_e n) Tryz.f121 (f_board_files_c n) (f_board_files_c n).b.n) = (f_board_files_c n).f x := by kernel_rfl
theorem f_board_files_ok (X : Cx Tryz.prog K Gl) (n : Nat) : FOk Tryz.prog K Gl 121 (f_board_files_c n) := func_ok (E := f_board_files_e n) (fn := Tryz.f121) (cf := (f_board_files_c n)) (os := [(.block 0 (.loop (lbody 0 (bodyOf Tryz.f121))), f_board_files_l0_c n), (.block 2 (.loop (lbody 2 (bodyOf Tryz.f121))), f_board_files_l2_c n)]) X (tok _ _ _ _) rfl (f_board_files_a X n) (scons (f_board_files_l0_o X n) (scons (f_board_files_l2_o X n) snil)) (by kernel_rfl) Tryz.func121 (by kernel_rfl) (f_board_files_k n)
def f_board_Check_l0_s (n : Nat) (r : List Int → Int → List Int → List Int → List Int → Option ((Int × Unit) ⊕ ((Unit × Unit × Unit) × List Int × List Int × List Int))) (t2 : List Int) (t3 : Int) (h4 : List Int) (h5 : List Int) (h6 : List Int) : Option ((Int × Unit) ⊕ ((Unit × Unit × Unit) × List Int × List Int × List Int)) :=
 Br (lt t3 81)
  (Br (inr t3 81)
   (ob (f_piece_Kind (t2.getD t3.toNat 0)) fun y12 =>
   Br (eq (t2.getD t3.toNat 0) 0)
    (r t2 (wa .i64 t3 1) h4 h5 h6)
    (Br (eq y12.1 0)
     (some (.inl (55, ())))
     (Br (eq y12.1 8)
      (ob (f_piece_Side (t2.getD t3.toNat 0)) fun y14 =>
      Br (inr y14.1 2)
       (Br (inr y14.1 2)
        (ob (f_piece_Raw y12.1) fun y15 =>
        Br (inr y15.1 9)
         (Br (inr y15.1 9)
          (r t2 (wa .i64 t3 1) h4 (h5.set y15.1.toNat (wa .i64 (h5.getD y15.1.toNat 0) 1)) (h6.set y14.1.toNat (wa .i64 (h6.getD y14.1.toNat 0) 1)))
          (none))
         (none))
        (none))
       (none))
      (ob (f_piece_Raw y12.1) fun y16 =>
      Br (inr y16.1 9)
       (Br (inr y16.1 9)
        (r t2 (wa .i64 t3 1) h4 (h5.set y16.1.toNat (wa .i64 (h5.getD y16.1.toNat 0) 1)) h6)
        (none))
       (none)))))
   (none))
  (some (.inr (((), (), ()), h4, h5, h6)))
def f_board_Check_l0_i (n : Nat) : Nat → List Int → Int → List Int → List Int → List Int → Option ((Int × Unit) ⊕ ((Unit × Unit × Unit) × List Int × List Int × List Int))
 | 0, _, _, _, _, _ => none
 | m + 1, t2, t3, h4, h5, h6 => f_board_Check_l0_s n (f_board_Check_l0_i n m) t2 t3 h4 h5 h6
def f_board_Check_l0 (n : Nat) := f_board_Check_l0_i n n
def f_board_Check_l9_s (n : Nat) (r : List Int → Int → List Int → Int → List Int → List Int → List Int → Option ((Int × Unit) ⊕ ((Unit × Unit × Unit × List Int × Int) × List Int × List Int × List Int))) (t28 : List Int) (t29 : Int) (t30 : List Int) (t31 : Int) (h32 : List Int) (h33 : List Int) (h34 : List Int) : Option ((Int × Unit) ⊕ ((Unit × Unit × Unit × List Int × Int) × List Int × List Int × List Int)) :=
 Br (lt t31 8)
  (Br (inr t31 8)
   (Br (lt (t30.getD t31.toNat 0) 0)
    (some (.inl (55, ())))
    (Br (lt 0 (t30.getD t31.toNat 0))
     (Br (eq t31 0)
      (some (.inl (55, ())))
      (Br (eq t31 8)
       (some (.inl (55, ())))
       (Br (inr t31 9)
        (Br (inr t31 9)
         (r t28 t29 t30 (wa .i64 t31 1) h32 (h33.set t31.toNat (wa .i64 (h33.getD t31.toNat 0) (wr .i64 (t30.getD t31.toNat 0)))) h34)
         (none))
        (none))))
     (Br (inr t31 9)
      (Br (inr t31 9)
       (r t28 t29 t30 (wa .i64 t31 1) h32 (h33.set t31.toNat (wa .i64 (h33.getD t31.toNat 0) (wr .i64 (t30.getD t31.toNat 0)))) h34)
       (none))
      (none))))
   (none))
  (some (.inr (((), (), (), t28, t29), h32, h33, h34)))
def f_board_Check_l9_i (n : Nat) : Nat → List Int → Int → List Int → Int → List Int → List Int → List Int → Option ((Int × Unit) ⊕ ((Unit × Unit × Unit × List Int × Int) × List Int × List Int × List Int))
 | 0, _, _, _, _, _, _, _ => none
 | m + 1, t28, t29, t30, t31, h32, h33, h34 => f_board_Check_l9_s n (f_board_Check_l9_i n m) t28 t29 t30 t31 h32 h33 h34
def f_board_Check_l9 (n : Nat) := f_board_Check_l9_i n n
def f_board_Check_l7_s (n : Nat) (r : List Int → Int → List Int → List Int → List Int → Option ((Int × Unit) ⊕ ((Unit × Unit × Unit) × List Int × List Int × List Int))) (t23 : List Int) (t24 : Int) (h25 : List Int) (h26 : List Int) (h27 : List Int) : Option ((Int × Unit) ⊕ ((Unit × Unit × Unit) × List Int × List Int × List Int)) :=
 Br (lt t24 2)
  (Br (inr t24 2)
   (ob (f_board_Check_l9 n t23 t24 ((t23.drop (t24.toNat * 8)).take 8) 0 h25 h26 h27) fun y38 =>
   sm y38 (fun y39 =>
    some (.inl (y39.1, ())))
    (fun y40 =>
    r y40.1.2.2.2.1 (wa .i64 y40.1.2.2.2.2 1) y40.2.1 y40.2.2.1 y40.2.2.2))
   (none))
  (some (.inr (((), (), ()), h25, h26, h27)))
def f_board_Check_l7_i (n : Nat) : Nat → List Int → Int → List Int → List Int → List Int → Option ((Int × Unit) ⊕ ((Unit × Unit × Unit) × List Int × List Int × List Int))
 | 0, _, _, _, _, _ => none
 | m + 1, t23, t24, h25, h26, h27 => f_board_Check_l7_s n (f_board_Check_l7_i n m) t23 t24 h25 h26 h27
def f_board_Check_l7 (n : Nat) := f_board_Check_l7_i n n
def f_board_Check_l11_s (n : Nat) (r : Int → List Int → List Int → Option ((Int × Unit) ⊕ (Unit × List Int))) (k47 : Int) (h48 : List Int) (h49 : List Int) : Option ((Int × Unit) ⊕ (Unit × List Int)) :=
 Br (lt k47 8)
  (Br (inr k47 9)
   (ob (f_piece_Total n k47) fun y51 =>
   Br (lt y51.1 (h49.getD k47.toNat 0))
    (some (.inl (51, ())))
    (r (wa .i64 k47 1) h48 h49))
   (none))
  (some (.inr ((), h48)))
def f_board_Check_l11_i (n : Nat) : Nat → Int → List Int → List Int → Option ((Int × Unit) ⊕ (Unit × List Int))
 | 0, _, _, _ => none
 | m + 1, k47, h48, h49 => f_board_Check_l11_s n (f_board_Check_l11_i n m) k47 h48 h49
def f_board_Check_l11 (n : Nat) := f_board_Check_l11_i n n
def f_board_Check_j3 (n : Nat) (h1 : List Int) : Option (Int × Unit) :=
 ob (f_board_Check_l0 n (h1.take 81) 0 h1 (List.replicate 9 0) (List.replicate 2 0)) fun y20 =>
 sm y20 (fun y21 =>
  some (y21.1, ()))
  (fun y22 =>
  ob (f_board_Check_l7 n ((y22.2.1.drop 81).take 16) 0 y22.2.1 y22.2.2.1 y22.2.2.2) fun y44 =>
  sm y44 (fun y45 =>
   some (y45.1, ()))
   (fun y46 =>
   Br (!(List.beq y46.2.2.2 [1, 1]))
    (some (50, ()))
    (ob (f_board_Check_l11 n 1 y46.2.1 y46.2.2.1) fun y55 =>
    sm y55 (fun y56 =>
     some (y56.1, ()))
     (fun y57 =>
     ob (f_board_files n y57.2) fun y58 =>
     some (y58.1, ())))))
def f_board_Check (n : Nat) (p0 : List Int) : Option (Int × Unit × Unit) :=
 Br (!(eq (p0.getD 97 0) 0))
  (Br (!(eq (p0.getD 97 0) 1))
   (some (1, (), ()))
   (ob (f_board_Check_j3 n p0) fun y59 =>
   some (y59.1, (), ())))
  (ob (f_board_Check_j3 n p0) fun y60 =>
  some (y60.1, (), ()))
def f_board_Check_c (n : Nat) : Cf := ⟨.t (.a .i8 98) [], .e, [⟨.t (.i .i64) [], .e, .e⟩], fun x => f_board_Check n x.1⟩
def f_board_Check_l0_c (n : Nat) : Cs := ⟨0, [], ⟨[1, 3, 4, 22, 23], .c (.t (.r .p) [.p 0]) (.c (.t (.r .p) [.p 1]) (.c (.t (.r .p) [.p 2]) (.c (.t (.a .i8 81) []) (.t (.i .i64) [])))), .c (.o (.a .i8 98) []) (.c (.o (.a .i64 9) []) (.o (.a .i64 2) []))⟩, [⟨1, ⟨[2], .t (.i .i64) [], .e⟩⟩, ⟨0, ⟨[1, 3, 4], .c (.t (.r .p) [.p 0]) (.c (.t (.r .p) [.p 1]) (.t (.r .p) [.p 2])), .c (.o (.a .i8 98) []) (.c (.o (.a .i64 9) []) (.o (.a .i64 2) []))⟩⟩], fun v => f_board_Check_l0 n v.1.2.2.2.1 v.1.2.2.2.2 v.2.1 v.2.2.1 v.2.2.2⟩
def f_board_Check_l9_c (n : Nat) : Cs := ⟨0, [], ⟨[1, 3, 4, 51, 52, 55, 56], .c (.t (.r .p) [.p 0]) (.c (.t (.r .p) [.p 1]) (.c (.t (.r .p) [.p 2]) (.c (.t (.a .i8 16) []) (.c (.t (.i .i64) []) (.c (.t (.a .i8 8) []) (.t (.i .i64) [])))))), .c (.o (.a .i8 98) []) (.c (.o (.a .i64 9) []) (.o (.a .i64 2) []))⟩, [⟨1, ⟨[2], .t (.i .i64) [], .e⟩⟩, ⟨0, ⟨[1, 3, 4, 51, 52], .c (.t (.r .p) [.p 0]) (.c (.t (.r .p) [.p 1]) (.c (.t (.r .p) [.p 2]) (.c (.t (.a .i8 16) []) (.t (.i .i64) [])))), .c (.o (.a .i8 98) []) (.c (.o (.a .i64 9) []) (.o (.a .i64 2) []))⟩⟩], fun v => f_board_Check_l9 n v.1.2.2.2.1 v.1.2.2.2.2.1 v.1.2.2.2.2.2.1 v.1.2.2.2.2.2.2 v.2.1 v.2.2.1 v.2.2.2⟩
def f_board_Check_l7_c (n : Nat) : Cs := ⟨0, [], ⟨[1, 3, 4, 51, 52], .c (.t (.r .p) [.p 0]) (.c (.t (.r .p) [.p 1]) (.c (.t (.r .p) [.p 2]) (.c (.t (.a .i8 16) []) (.t (.i .i64) [])))), .c (.o (.a .i8 98) []) (.c (.o (.a .i64 9) []) (.o (.a .i64 2) []))⟩, [⟨1, ⟨[2], .t (.i .i64) [], .e⟩⟩, ⟨0, ⟨[1, 3, 4], .c (.t (.r .p) [.p 0]) (.c (.t (.r .p) [.p 1]) (.t (.r .p) [.p 2])), .c (.o (.a .i8 98) []) (.c (.o (.a .i64 9) []) (.o (.a .i64 2) []))⟩⟩], fun v => f_board_Check_l7 n v.1.2.2.2.1 v.1.2.2.2.2 v.2.1 v.2.2.1 v.2.2.2⟩
def f_board_Check_l11_c (n : Nat) : Cs := ⟨0, [], ⟨[1, 3, 12], .c (.t (.r .p) [.p 0]) (.c (.t (.r .p) [.p 1]) (.t (.i .i64) [])), .c (.o (.a .i8 98) []) (.o (.a .i64 9) [])⟩, [⟨1, ⟨[2], .t (.i .i64) [], .e⟩⟩, ⟨0, ⟨[1], .t (.r .p) [.p 0], .o (.a .i8 98) []⟩⟩], fun v => f_board_Check_l11 n v.1.2.2 v.2.1 v.2.2⟩
def f_board_Check_j3_c (n : Nat) : Cs := ⟨0, [], ⟨[1], .t (.r .p) [.p 0], .o (.a .i8 98) []⟩, [⟨1, ⟨[2], .t (.i .i64) [], .e⟩⟩], fun v => f_board_Check_j3 n v.2⟩
def f_board_Check_e (n : Nat) : Env := en [(90, f_piece_Kind_c n), (56, f_piece_Side_c n), (91, f_piece_Raw_c n), (120, f_piece_Total_c n), (121, f_board_files_c n)] [] [(3, f_board_Check_j3_c n)] [(0, f_board_Check_l0_c n), (9, f_board_Check_l9_c n), (7, f_board_Check_l7_c n), (11, f_board_Check_l11_c n)]
theorem f_board_Check_a (X : Cx Tryz.prog K Gl) (n : Nat) : FAll Tryz.prog K Gl [(90, f_piece_Kind_c n), (56, f_piece_Side_c n), (91, f_piece_Raw_c n), (120, f_piece_Total_c n), (121, f_board_files_c n)] := (fcons (f_piece_Kind_ok X n) (fcons (f_piece_Side_ok X n) (fcons (f_piece_Raw_ok X n) (fcons (f_piece_Total_ok X n) (fcons (f_board_files_ok X n) fnil)))))
theorem f_board_Check_l0_k (n : Nat) (p : Nat) (v : (f_board_Check_l0_c n).s.X) : run (f_board_Check_e n) (lbody 0 (bodyOf Tryz.f99)) ((f_board_Check_l0_c n).s.st Tryz.f99.ntmps v) (kloop 0 (f_board_Check_l0_c n) (fun v => f_board_Check_l0_i n p v.1.2.2.2.1 v.1.2.2.2.2 v.2.1 v.2.2.1 v.2.2.2)) = f_board_Check_l0_i n (p + 1) v.1.2.2.2.1 v.1.2.2.2.2 v.2.1 v.2.2.1 v.2.2.2 := by kernel_rfl
theorem f_board_Check_l0_o (X : Cx Tryz.prog K Gl) (n : Nat) : SO Tryz.prog K Gl Tryz.f99.ntmps 0 (.block 0 (.loop (lbody 0 (bodyOf Tryz.f99)))) (f_board_Check_l0_c n) := loop_ok (E := f_board_Check_e n) (os := []) (s := f_board_Check_l0_c n) (n := n) X (tok _ _ _ _) rfl (f_board_Check_a X n) snil (by kernel_rfl) rfl (fun p (v : (f_board_Check_l0_c n).s.X) => f_board_Check_l0_i n p v.1.2.2.2.1 v.1.2.2.2.2 v.2.1 v.2.2.1 v.2.2.2) (fun _ => rfl) (f_board_Check_l0_k n) (fun _ => rfl)
theorem f_board_Check_l9_k (n : Nat) (p : Nat) (v : (f_board_Check_l9_c n).s.X) : run (f_board_Check_e n) (lbody 9 (bodyOf Tryz.f99)) ((f_board_Check_l9_c n).s.st Tryz.f99.ntmps v) (kloop 9 (f_board_Check_l9_c n) (fun v => f_board_Check_l9_i n p v.1.2.2.2.1 v.1.2.2.2.2.1 v.1.2.2.2.2.2.1 v.1.2.2.2.2.2.2 v.2.1 v.2.2.1 v.2.2.2)) = f_board_Check_l9_i n (p + 1) v.1.2.2.2.1 v.1.2.2.2.2.1 v.1.2.2.2.2.2.1 v.1.2.2.2.2.2.2 v.2.1 v.2.2.1 v.2.2.2 := by kernel_rfl
theorem f_board_Check_l9_o (X : Cx Tryz.prog K Gl) (n : Nat) : SO Tryz.prog K Gl Tryz.f99.ntmps 0 (.block 9 (.loop (lbody 9 (bodyOf Tryz.f99)))) (f_board_Check_l9_c n) := loop_ok (E := f_board_Check_e n) (os := []) (s := f_board_Check_l9_c n) (n := n) X (tok _ _ _ _) rfl (f_board_Check_a X n) snil (by kernel_rfl) rfl (fun p (v : (f_board_Check_l9_c n).s.X) => f_board_Check_l9_i n p v.1.2.2.2.1 v.1.2.2.2.2.1 v.1.2.2.2.2.2.1 v.1.2.2.2.2.2.2 v.2.1 v.2.2.1 v.2.2.2) (fun _ => rfl) (f_board_Check_l9_k n) (fun _ => rfl)
theorem f_board_Check_l7_k (n : Nat) (p : Nat) (v : (f_board_Check_l7_c n).s.X) : run (f_board_Check_e n) (lbody 7 (bodyOf Tryz.f99)) ((f_board_Check_l7_c n).s.st Tryz.f99.ntmps v) (kloop 7 (f_board_Check_l7_c n) (fun v => f_board_Check_l7_i n p v.1.2.2.2.1 v.1.2.2.2.2 v.2.1 v.2.2.1 v.2.2.2)) = f_board_Check_l7_i n (p + 1) v.1.2.2.2.1 v.1.2.2.2.2 v.2.1 v.2.2.1 v.2.2.2 := by kernel_rfl
theorem f_board_Check_l7_o (X : Cx Tryz.prog K Gl) (n : Nat) : SO Tryz.prog K Gl Tryz.f99.ntmps 0 (.block 7 (.loop (lbody 7 (bodyOf Tryz.f99)))) (f_board_Check_l7_c n) := loop_ok (E := f_board_Check_e n) (os := [(.block 9 (.loop (lbody 9 (bodyOf Tryz.f99))), f_board_Check_l9_c n)]) (s := f_board_Check_l7_c n) (n := n) X (tok _ _ _ _) rfl (f_board_Check_a X n) (scons (f_board_Check_l9_o X n) snil) (by kernel_rfl) rfl (fun p (v : (f_board_Check_l7_c n).s.X) => f_board_Check_l7_i n p v.1.2.2.2.1 v.1.2.2.2.2 v.2.1 v.2.2.1 v.2.2.2) (fun _ => rfl) (f_board_Check_l7_k n) (fun _ => rfl)
theorem f_board_Check_l11_k (n : Nat) (p : Nat) (v : (f_board_Check_l11_c n).s.X) : run (f_board_Check_e n) (lbody 11 (bodyOf Tryz.f99)) ((f_board_Check_l11_c n).s.st Tryz.f99.ntmps v) (kloop 11 (f_board_Check_l11_c n) (fun v => f_board_Check_l11_i n p v.1.2.2 v.2.1 v.2.2)) = f_board_Check_l11_i n (p + 1) v.1.2.2 v.2.1 v.2.2 := by kernel_rfl
theorem f_board_Check_l11_o (X : Cx Tryz.prog K Gl) (n : Nat) : SO Tryz.prog K Gl Tryz.f99.ntmps 0 (.block 11 (.loop (lbody 11 (bodyOf Tryz.f99)))) (f_board_Check_l11_c n) := loop_ok (E := f_board_Check_e n) (os := []) (s := f_board_Check_l11_c n) (n := n) X (tok _ _ _ _) rfl (f_board_Check_a X n) snil (by kernel_rfl) rfl (fun p (v : (f_board_Check_l11_c n).s.X) => f_board_Check_l11_i n p v.1.2.2 v.2.1 v.2.2) (fun _ => rfl) (f_board_Check_l11_k n) (fun _ => rfl)
theorem f_board_Check_j3_k (n : Nat) (v : (f_board_Check_j3_c n).s.X) : run (f_board_Check_e n) (jbody 3 (bodyOf Tryz.f99)) ((f_board_Check_j3_c n).s.st Tryz.f99.ntmps v) (decS 0 (f_board_Check_j3_c n).x) = (f_board_Check_j3_c n).f v := by kernel_rfl
theorem f_board_Check_j3_o (X : Cx Tryz.prog K Gl) (n : Nat) : SO Tryz.prog K Gl Tryz.f99.ntmps 0 (jbody 3 (bodyOf Tryz.f99)) (f_board_Check_j3_c n) := join_ok (E := f_board_Check_e n) (os := [(.block 0 (.loop (lbody 0 (bodyOf Tryz.f99))), f_board_Check_l0_c n), (.block 7 (.loop (lbody 7 (bodyOf Tryz.f99))), f_board_Check_l7_c n), (.block 11 (.loop (lbody 11 (bodyOf Tryz.f99))), f_board_Check_l11_c n)]) X (tok _ _ _ _) rfl (f_board_Check_a X n) (scons (f_board_Check_l0_o X n) (scons (f_board_Check_l7_o X n) (scons (f_board_Check_l11_o X n) snil))) (by kernel_rfl) rfl (f_board_Check_j3_k n)
theorem f_board_Check_k (n : Nat) (x : (f_board_Check_c n).a.X × (f_board_Check_c n).b.X) : run (f_board_Check_e n) (bodyOf Tryz.f99) (entry Tryz.f99.ntmps ((f_board_Check_c n).a.enc x.1) ((f_board_Check_c n).b.enc x.2)) (kfin (f_board_Check_e n) Tryz.f99 (f_board_Check_c n) (f_board_Check_c n).b.n) = (f_board_Check_c n).f x := by kernel_rfl
theorem f_board_Check_ok (X : Cx Tryz.prog K Gl) (n : Nat) : FOk Tryz.prog K Gl 99 (f_board_Check_c n) := func_ok (E := f_board_Check_e n) (fn := Tryz.f99) (cf := (f_board_Check_c n)) (os := [(jbody 3 (bodyOf Tryz.f99), f_board_Check_j3_c n)]) X (tok _ _ _ _) rfl (f_board_Check_a X n) (scons (f_board_Check_j3_o X n) snil) (by kernel_rfl) Tryz.func99 (by kernel_rfl) (f_board_Check_k n)
def f_set_Set_First (s0 : Int × Int × Unit) : Option (Int × Unit × Unit) :=
 Br (!(eq s0.1 0))
  (ob (l_tz s0.1) fun y3 =>
  some (y3.1, (), ()))
  (Br (!(eq s0.2.1 0))
   (ob (l_tz s0.2.1) fun y4 =>
   some (wa .i64 63 y4.1, (), ()))
   (some ((-1), (), ())))
def f_set_Set_First_c (n : Nat) : Cf := ⟨.t (.p (.i .u64) (.p (.i .u64) (.u))) [], .e, [⟨.t (.i .i64) [], .e, .e⟩], fun x => f_set_Set_First x.1⟩
def f_set_Set_First_e (n : Nat) : Env := en [(167, l_tz_c n)] [] [] []
theorem f_set_Set_First_a (X : Cx Tryz.prog K Gl) (n : Nat) : FAll Tryz.prog K Gl [(167, l_tz_c n)] := (fcons (l_tz_ok X n) fnil)
theorem f_set_Set_First_k (n : Nat) (x : (f_set_Set_First_c n).a.X × (f_set_Set_First_c n).b.X) : run (f_set_Set_First_e n) (bodyOf Tryz.f163) (entry Tryz.f163.ntmps ((f_set_Set_First_c n).a.enc x.1) ((f_set_Set_First_c n).b.enc x.2)) (kfin (f_set_Set_First_e n) Tryz.f163 (f_set_Set_First_c n) (f_set_Set_First_c n).b.n) = (f_set_Set_First_c n).f x := by kernel_rfl
theorem f_set_Set_First_ok (X : Cx Tryz.prog K Gl) (n : Nat) : FOk Tryz.prog K Gl 163 (f_set_Set_First_c n) := func_ok (E := f_set_Set_First_e n) (fn := Tryz.f163) (cf := (f_set_Set_First_c n)) (os := []) X (tok _ _ _ _) rfl (f_set_Set_First_a X n) snil (by kernel_rfl) Tryz.func163 (by kernel_rfl) (f_set_Set_First_k n)
def f_board_Board_King (side1 : Int) (b0 : List (List Int × List (Int × Int × Unit) × List (Int × Int × Unit) × Unit)) : Option (Int × (List (List Int × List (Int × Int × Unit) × List (Int × Int × Unit) × Unit)) × Unit) :=
 ob (f_board_Board_Of side1 8 b0) fun y1 =>
 ob (f_set_Set_First y1.1) fun y2 =>
 some (y2.1, b0, ())
def f_board_Board_King_c (n : Nat) : Cf := ⟨.c (.ip 0 [.i 0]) (.t (.i .i64) []), .w 0 (.p (.a .i8 98) (.p (.l 32 (.p (.i .u64) (.p (.i .u64) (.u)))) (.p (.l 2 (.p (.i .u64) (.p (.i .u64) (.u)))) (.u)))) false, [⟨.t (.i .i64) [], .w 0 (.p (.a .i8 98) (.p (.l 32 (.p (.i .u64) (.p (.i .u64) (.u)))) (.p (.l 2 (.p (.i .u64) (.p (.i .u64) (.u)))) (.u)))) false, .e⟩], fun x => f_board_Board_King x.1.2 x.2⟩
def f_board_Board_King_e (n : Nat) : Env := en [(140, f_board_Board_Of_c n), (163, f_set_Set_First_c n)] [] [] []
theorem f_board_Board_King_a (X : Cx Tryz.prog K Gl) (n : Nat) : FAll Tryz.prog K Gl [(140, f_board_Board_Of_c n), (163, f_set_Set_First_c n)] := (fcons (f_board_Board_Of_ok X n) (fcons (f_set_Set_First_ok X n) fnil))
theorem f_board_Board_King_k (n : Nat) (x : (f_board_Board_King_c n).a.X × (f_board_Board_King_c n).b.X) : run (f_board_Board_King_e n) (bodyOf Tryz.f145) (entry Tryz.f145.ntmps ((f_board_Board_King_c n).a.enc x.1) ((f_board_Board_King_c n).b.enc x.2)) (kfin (f_board_Board_King_e n) Tryz.f145 (f_board_Board_King_c n) (f_board_Board_King_c n).b.n) = (f_board_Board_King_c n).f x := by kernel_rfl
theorem f_board_Board_King_ok (X : Cx Tryz.prog K Gl) (n : Nat) : FOk Tryz.prog K Gl 145 (f_board_Board_King_c n) := func_ok (E := f_board_Board_King_e n) (fn := Tryz.f145) (cf := (f_board_Board_King_c n)) (os := []) X (tok _ _ _ _) rfl (f_board_Board_King_a X n) snil (by kernel_rfl) Tryz.func145 (by kernel_rfl) (f_board_Board_King_k n)
def f_board_Board_Taken (b0 : List (List Int × List (Int × Int × Unit) × List (Int × Int × Unit) × Unit)) : (Int × Int × Unit) × (List (List Int × List (Int × Int × Unit) × List (Int × Int × Unit) × Unit)) × Unit :=
 ((f_set_Set_Or ((b0.getD 0 (List.replicate 98 0, List.replicate 32 (0, 0, ()), List.replicate 2 (0, 0, ()), ())).2.2.1.getD 0 (0, 0, ())) ((b0.getD 0 (List.replicate 98 0, List.replicate 32 (0, 0, ()), List.replicate 2 (0, 0, ()), ())).2.2.1.getD 1 (0, 0, ()))).1, b0, ())
def f_board_Board_Taken_c (n : Nat) : Cf := ⟨.ip 0 [.i 0], .w 0 (.p (.a .i8 98) (.p (.l 32 (.p (.i .u64) (.p (.i .u64) (.u)))) (.p (.l 2 (.p (.i .u64) (.p (.i .u64) (.u)))) (.u)))) false, [⟨.t (.p (.i .u64) (.p (.i .u64) (.u))) [], .w 0 (.p (.a .i8 98) (.p (.l 32 (.p (.i .u64) (.p (.i .u64) (.u)))) (.p (.l 2 (.p (.i .u64) (.p (.i .u64) (.u)))) (.u)))) false, .e⟩], fun x => some (f_board_Board_Taken x.2)⟩
def f_board_Board_Taken_e (n : Nat) : Env := en [(161, f_set_Set_Or_c n)] [] [] []
theorem f_board_Board_Taken_a (X : Cx Tryz.prog K Gl) (n : Nat) : FAll Tryz.prog K Gl [(161, f_set_Set_Or_c n)] := (fcons (f_set_Set_Or_ok X n) fnil)
theorem f_board_Board_Taken_k (n : Nat) (x : (f_board_Board_Taken_c n).a.X × (f_board_Board_Taken_c n).b.X) : run (f_board_Board_Taken_e n) (bodyOf Tryz.f146) (entry Tryz.f146.ntmps ((f_board_Board_Taken_c n).a.enc x.1) ((f_board_Board_Taken_c n).b.enc x.2)) (kfin (f_board_Board_Taken_e n) Tryz.f146 (f_board_Board_Taken_c n) (f_board_Board_Taken_c n).b.n) = (f_board_Board_Taken_c n).f x := by kernel_rfl
theorem f_board_Board_Taken_ok (X : Cx Tryz.prog K Gl) (n : Nat) : FOk Tryz.prog K Gl 146 (f_board_Board_Taken_c n) := func_ok (E := f_board_Board_Taken_e n) (fn := Tryz.f146) (cf := (f_board_Board_Taken_c n)) (os := []) X (tok _ _ _ _) rfl (f_board_Board_Taken_a X n) snil (by kernel_rfl) Tryz.func146 (by kernel_rfl) (f_board_Board_Taken_k n)
end Go.AM.T
