/- What the functions compute, and that they do. -/
import Derived.Test.YtgeignldbgncbaaGreatDoorBFB
import Derived.Test.YtgeignldbgncbaaGreatDoorKL
set_option maxRecDepth 1000000
set_option linter.unusedVariables false
namespace Go.AM.T
open Go Go.AM Go.Proofs
def f_token_words (s0 : ByteArray) : Option (Unit × Unit × List (ByteArray)) :=
 ob (l_fields s0) fun y1 =>
 some (y1.1, (), y1.2.2)
def f_token_words_c (n : Nat) : Cf := ⟨.t (.s) [], .e, [⟨.t (.r .s) [.w 0], .e, .w 9 (.s) true⟩], fun x => f_token_words x.1⟩
def f_token_words_e (n : Nat) : Env := en [(43, l_fields_c n)] [] [] []
theorem f_token_words_a (X : Cx Tryz.prog K Gl) (n : Nat) : FAll Tryz.prog K Gl [(43, l_fields_c n)] := (fcons (l_fields_ok X n) fnil)
theorem f_token_words_k (n : Nat) (x : (f_token_words_c n).a.X × (f_token_words_c n).b.X) : run (f_token_words_e n) (bodyOf Tryz.f26) (entry Tryz.f26.ntmps ((f_token_words_c n).a.enc x.1) ((f_token_words_c n).b.enc x.2)) (kfin (f_token_words_e n) Tryz.f26 (f_token_words_c n) (f_token_words_c n).b.n) = (f_token_words_c n).f x := by kernel_rfl
theorem f_token_words_ok (X : Cx Tryz.prog K Gl) (n : Nat) : FOk Tryz.prog K Gl 26 (f_token_words_c n) := func_ok (E := f_token_words_e n) (fn := Tryz.f26) (cf := (f_token_words_c n)) (os := []) X (tok _ _ _ _) rfl (f_token_words_a X n) snil (by kernel_rfl) Tryz.func26 (by kernel_rfl) (f_token_words_k n)
def f_token_option_j5 (n : Nat) (h1 : List (ByteArray)) : Option ((Unit × Int) × List (ByteArray)) :=
 some (((), 70), h1)
def f_token_option (n : Nat) (b0 : List (ByteArray)) : Option ((((ByteArray × ByteArray × Unit) × Int) × List (ByteArray) × Unit) ⊕ ((Unit × Int) × List (ByteArray) × Unit)) :=
 Br (eq (b0.length : Int) 2)
  (Br (inr 0 (b0.length : Int))
   (Br (seq (b0.getD 0 (⟨#[]⟩ : ByteArray)) (⟨#[110, 97, 109, 101]⟩ : ByteArray))
    (Br (inr 1 (b0.length : Int))
     (some (.inl (((b0.getD 1 (⟨#[]⟩ : ByteArray), (⟨#[]⟩ : ByteArray), ()), 0), b0, ())))
     (none))
    (Br (eq (b0.length : Int) 4)
     (Br (inr 0 (b0.length : Int))
      (Br (seq (b0.getD 0 (⟨#[]⟩ : ByteArray)) (⟨#[110, 97, 109, 101]⟩ : ByteArray))
       (Br (inr 2 (b0.length : Int))
        (Br (seq (b0.getD 2 (⟨#[]⟩ : ByteArray)) (⟨#[118, 97, 108, 117, 101]⟩ : ByteArray))
         (Br (inr 1 (b0.length : Int))
          (Br (inr 3 (b0.length : Int))
           (some (.inl (((b0.getD 1 (⟨#[]⟩ : ByteArray), b0.getD 3 (⟨#[]⟩ : ByteArray), ()), 0), b0, ())))
           (none))
          (none))
         (ob (f_token_option_j5 n b0) fun y2 =>
         some (.inr (((), y2.1.2), y2.2, ()))))
        (none))
       (ob (f_token_option_j5 n b0) fun y3 =>
       some (.inr (((), y3.1.2), y3.2, ()))))
      (none))
     (ob (f_token_option_j5 n b0) fun y4 =>
     some (.inr (((), y4.1.2), y4.2, ())))))
   (none))
  (Br (eq (b0.length : Int) 4)
   (Br (inr 0 (b0.length : Int))
    (Br (seq (b0.getD 0 (⟨#[]⟩ : ByteArray)) (⟨#[110, 97, 109, 101]⟩ : ByteArray))
     (Br (inr 2 (b0.length : Int))
      (Br (seq (b0.getD 2 (⟨#[]⟩ : ByteArray)) (⟨#[118, 97, 108, 117, 101]⟩ : ByteArray))
       (Br (inr 1 (b0.length : Int))
        (Br (inr 3 (b0.length : Int))
         (some (.inl (((b0.getD 1 (⟨#[]⟩ : ByteArray), b0.getD 3 (⟨#[]⟩ : ByteArray), ()), 0), b0, ())))
         (none))
        (none))
       (ob (f_token_option_j5 n b0) fun y5 =>
       some (.inr (((), y5.1.2), y5.2, ()))))
      (none))
     (ob (f_token_option_j5 n b0) fun y6 =>
     some (.inr (((), y6.1.2), y6.2, ()))))
    (none))
   (ob (f_token_option_j5 n b0) fun y7 =>
   some (.inr (((), y7.1.2), y7.2, ()))))
def f_token_option_c (n : Nat) : Cf := ⟨.t (.r .s) [.w 0], .w 9 (.s) false, [⟨.tu (.c (.fc 62 (.t (.p (.s) (.p (.s) (.u))) [])) (.t (.i .i64) [])), .w 9 (.s) false, .e⟩, ⟨.tu (.c (.nf) (.t (.i .i64) [])), .w 9 (.s) false, .e⟩], fun x => f_token_option n x.2⟩
def f_token_option_j5_c (n : Nat) : Cs := ⟨1, [], ⟨[], .e, .w 9 (.s) false⟩, [⟨1, ⟨[2, 3], .c (.nf) (.t (.i .i64) []), .w 9 (.s) false⟩⟩], fun v => f_token_option_j5 n v.2⟩
def f_token_option_e (n : Nat) : Env := en [] [] [(5, f_token_option_j5_c n)] []
theorem f_token_option_a (X : Cx Tryz.prog K Gl) (n : Nat) : FAll Tryz.prog K Gl [] := fnil
theorem f_token_option_j5_k (n : Nat) (v : (f_token_option_j5_c n).s.X) : run (f_token_option_e n) (jbody 5 (bodyOf Tryz.f27)) ((f_token_option_j5_c n).s.st Tryz.f27.ntmps v) (decS 1 (f_token_option_j5_c n).x) = (f_token_option_j5_c n).f v := by kernel_rfl
theorem f_token_option_j5_o (X : Cx Tryz.prog K Gl) (n : Nat) : SO Tryz.prog K Gl Tryz.f27.ntmps 1 (jbody 5 (bodyOf Tryz.f27)) (f_token_option_j5_c n) := join_ok (E := f_token_option_e n) (os := []) X (tok _ _ _ _) rfl (f_token_option_a X n) snil (by kernel_rfl) rfl (f_token_option_j5_k n)
theorem f_token_option_k (n : Nat) (x : (f_token_option_c n).a.X × (f_token_option_c n).b.X) : run (f_token_option_e n) (bodyOf Tryz.f27) (entry Tryz.f27.ntmps ((f_token_option_c n).a.enc x.1) ((f_token_option_c n).b.enc x.2)) (kfin (f_token_option_e n) Tryz.f27 (f_token_option_c n) (f_token_option_c n).b.n) = (f_token_option_c n).f x := by kernel_rfl
theorem f_token_option_ok (X : Cx Tryz.prog K Gl) (n : Nat) : FOk Tryz.prog K Gl 27 (f_token_option_c n) := func_ok (E := f_token_option_e n) (fn := Tryz.f27) (cf := (f_token_option_c n)) (os := [(jbody 5 (bodyOf Tryz.f27), f_token_option_j5_c n)]) X (tok _ _ _ _) rfl (f_token_option_a X n) (scons (f_token_option_j5_o X n) snil) (by kernel_rfl) Tryz.func27 (by kernel_rfl) (f_token_option_k n)
def f_set_Square (file0 : Int) (rank1 : Int) : Option (Int × Unit × Unit) :=
 Br (lt file0 0)
  (some ((-1), (), ()))
  (Br (lt 8 file0)
   (some ((-1), (), ()))
   (Br (lt rank1 0)
    (some ((-1), (), ()))
    (Br (lt 8 rank1)
     (some ((-1), (), ()))
     (some (wa .i64 (wm .i64 9 file0) rank1, (), ())))))
def f_set_Square_c (n : Nat) : Cf := ⟨.c (.t (.i .i64) []) (.t (.i .i64) []), .e, [⟨.t (.i .i64) [], .e, .e⟩], fun x => f_set_Square x.1.1 x.1.2⟩
def f_set_Square_e (n : Nat) : Env := en [] [] [] []
theorem f_set_Square_a (X : Cx Tryz.prog K Gl) (n : Nat) : FAll Tryz.prog K Gl [] := fnil
theorem f_set_Square_k (n : Nat) (x : (f_set_Square_c n).a.X × (f_set_Square_c n).b.X) : run (f_set_Square_e n) (bodyOf Tryz.f41) (entry Tryz.f41.ntmps ((f_set_Square_c n).a.enc x.1) ((f_set_Square_c n).b.enc x.2)) (kfin (f_set_Square_e n) Tryz.f41 (f_set_Square_c n) (f_set_Square_c n).b.n) = (f_set_Square_c n).f x := by kernel_rfl
theorem f_set_Square_ok (X : Cx Tryz.prog K Gl) (n : Nat) : FOk Tryz.prog K Gl 41 (f_set_Square_c n) := func_ok (E := f_set_Square_e n) (fn := Tryz.f41) (cf := (f_set_Square_c n)) (os := []) X (tok _ _ _ _) rfl (f_set_Square_a X n) snil (by kernel_rfl) Tryz.func41 (by kernel_rfl) (f_set_Square_k n)
def f_board_Start_1 (rank0 : Int) (b0 : List (Int)) (b1 : List (Int)) : Option (Int × (List (Int) × List (Int)) × Unit) :=
 Br (eq (b0.getD 0 0) 1)
  (ob (f_set_Square (b1.getD 0 0) rank0) fun y2 =>
  some (y2.1, (b0, b1), ()))
  (ob (f_set_Square (b1.getD 0 0) (ws .i64 8 rank0)) fun y3 =>
  some (y3.1, (b0, b1), ()))
def f_board_Start_1_c (n : Nat) : Cf := ⟨.c (.t (.i .i64) []) (.c (.ip 0 [.i 0]) (.ip 1 [.i 0])), .c (.w 0 (.i .i64) false) (.w 0 (.i .i64) false), [⟨.t (.i .i64) [], .c (.w 0 (.i .i64) false) (.w 0 (.i .i64) false), .e⟩], fun x => f_board_Start_1 x.1.1 x.2.1 x.2.2⟩
def f_board_Start_1_e (n : Nat) : Env := en [(41, f_set_Square_c n)] [] [] []
theorem f_board_Start_1_a (X : Cx Tryz.prog K Gl) (n : Nat) : FAll Tryz.prog K Gl [(41, f_set_Square_c n)] := (fcons (f_set_Square_ok X n) fnil)
theorem f_board_Start_1_k (n : Nat) (x : (f_board_Start_1_c n).a.X × (f_board_Start_1_c n).b.X) : run (f_board_Start_1_e n) (bodyOf Tryz.f40) (entry Tryz.f40.ntmps ((f_board_Start_1_c n).a.enc x.1) ((f_board_Start_1_c n).b.enc x.2)) (kfin (f_board_Start_1_e n) Tryz.f40 (f_board_Start_1_c n) (f_board_Start_1_c n).b.n) = (f_board_Start_1_c n).f x := by kernel_rfl
theorem f_board_Start_1_ok (X : Cx Tryz.prog K Gl) (n : Nat) : FOk Tryz.prog K Gl 40 (f_board_Start_1_c n) := func_ok (E := f_board_Start_1_e n) (fn := Tryz.f40) (cf := (f_board_Start_1_c n)) (os := []) X (tok _ _ _ _) rfl (f_board_Start_1_a X n) snil (by kernel_rfl) Tryz.func40 (by kernel_rfl) (f_board_Start_1_k n)
def f_piece_Of (side0 : Int) (kind1 : Int) : Option (Int × Unit × Unit) :=
 Br (!(eq side0 0))
  (Br (!(eq side0 1))
   (some (0, (), ()))
   (Br (lt kind1 1)
    (some (0, (), ()))
    (Br (lt 15 kind1)
     (some (0, (), ()))
     (Br (eq kind1 13)
      (some (0, (), ()))
      (some (wr .i8 (wa .i64 (wm .i64 16 side0) kind1), (), ()))))))
  (Br (lt kind1 1)
   (some (0, (), ()))
   (Br (lt 15 kind1)
    (some (0, (), ()))
    (Br (eq kind1 13)
     (some (0, (), ()))
     (some (wr .i8 (wa .i64 (wm .i64 16 side0) kind1), (), ())))))
def f_piece_Of_c (n : Nat) : Cf := ⟨.c (.t (.i .i64) []) (.t (.i .i64) []), .e, [⟨.t (.i .i8) [], .e, .e⟩], fun x => f_piece_Of x.1.1 x.1.2⟩
def f_piece_Of_e (n : Nat) : Env := en [] [] [] []
theorem f_piece_Of_a (X : Cx Tryz.prog K Gl) (n : Nat) : FAll Tryz.prog K Gl [] := fnil
theorem f_piece_Of_k (n : Nat) (x : (f_piece_Of_c n).a.X × (f_piece_Of_c n).b.X) : run (f_piece_Of_e n) (bodyOf Tryz.f42) (entry Tryz.f42.ntmps ((f_piece_Of_c n).a.enc x.1) ((f_piece_Of_c n).b.enc x.2)) (kfin (f_piece_Of_e n) Tryz.f42 (f_piece_Of_c n) (f_piece_Of_c n).b.n) = (f_piece_Of_c n).f x := by kernel_rfl
theorem f_piece_Of_ok (X : Cx Tryz.prog K Gl) (n : Nat) : FOk Tryz.prog K Gl 42 (f_piece_Of_c n) := func_ok (E := f_piece_Of_e n) (fn := Tryz.f42) (cf := (f_piece_Of_c n)) (os := []) X (tok _ _ _ _) rfl (f_piece_Of_a X n) snil (by kernel_rfl) Tryz.func42 (by kernel_rfl) (f_piece_Of_k n)
def f_board_Start_l2_s (n : Nat) (r : Int → Int → List Int → List Int → List Int → Int → Option ((Unit × Unit × Unit × Int) × List Int × List Int × List Int)) (t65 : Int) (t66 : Int) (h67 : List Int) (h68 : List Int) (h69 : List Int) (h70 : Int) : Option ((Unit × Unit × Unit × Int) × List Int × List Int × List Int) :=
 Br (lt t66 2)
  (ob (f_board_Start_1 0 [t66] [h70]) fun y79 =>
  Br (inr h70 9)
   (ob (f_piece_Of t66 (h69.getD h70.toNat 0)) fun y80 =>
   Br (inr y79.1 81)
    (ob (f_board_Start_1 2 [t66] [h70]) fun y81 =>
    ob (f_piece_Of t66 1) fun y82 =>
    Br (inr y81.1 81)
     (r t65 (wa .i64 t66 1) h67 ((h68.set y79.1.toNat y80.1).set y81.1.toNat y82.1) h69 h70)
     (none))
    (none))
   (none))
  (some (((), (), (), t65), h67, h68, h69))
def f_board_Start_l2_i (n : Nat) : Nat → Int → Int → List Int → List Int → List Int → Int → Option ((Unit × Unit × Unit × Int) × List Int × List Int × List Int)
 | 0, _, _, _, _, _, _ => none
 | m + 1, t65, t66, h67, h68, h69, h70 => f_board_Start_l2_s n (f_board_Start_l2_i n m) t65 t66 h67 h68 h69 h70
def f_board_Start_l2 (n : Nat) := f_board_Start_l2_i n n
def f_board_Start_l0_s (n : Nat) (r : Int → List Int → List Int → List Int → Option ((Unit × Unit) × List Int × List Int)) (t61 : Int) (h62 : List Int) (h63 : List Int) (h64 : List Int) : Option ((Unit × Unit) × List Int × List Int) :=
 Br (lt t61 9)
  (ob (f_board_Start_l2 n t61 0 h62 h63 h64 t61) fun y84 =>
  r (wa .i64 y84.1.2.2.2 1) y84.2.1 y84.2.2.1 y84.2.2.2)
  (some (((), ()), h62, h63))
def f_board_Start_l0_i (n : Nat) : Nat → Int → List Int → List Int → List Int → Option ((Unit × Unit) × List Int × List Int)
 | 0, _, _, _, _ => none
 | m + 1, t61, h62, h63, h64 => f_board_Start_l0_s n (f_board_Start_l0_i n m) t61 h62 h63 h64
def f_board_Start_l0 (n : Nat) := f_board_Start_l0_i n n
def f_board_Start (n : Nat)  : Option (List Int × Unit × Unit) :=
 ob (f_board_Start_l0 n 0 (List.replicate 98 0) (List.replicate 98 0) [2, 3, 4, 5, 8, 5, 4, 3, 2]) fun y86 =>
 ob (f_set_Square 7 7) fun y89 =>
 Br (inr y89.1 81)
  (ob (f_set_Square 1 7) fun y90 =>
  Br (inr y90.1 81)
   (ob (f_set_Square 1 1) fun y93 =>
   Br (inr y93.1 81)
    (ob (f_set_Square 7 1) fun y94 =>
    Br (inr y94.1 81)
     (some ((((y86.2.2.set y89.1.toNat 6).set y90.1.toNat 7).set y93.1.toNat 22).set y94.1.toNat 23, (), ()))
     (none))
    (none))
   (none))
  (none)
def f_board_Start_c (n : Nat) : Cf := ⟨.e, .e, [⟨.t (.a .i8 98) [], .e, .e⟩], fun x => f_board_Start n⟩
def f_board_Start_l2_c (n : Nat) : Cs := ⟨0, [], ⟨[0, 1, 2, 3, 7, 10], .c (.t (.r .p) [.p 0]) (.c (.t (.r .p) [.p 1]) (.c (.t (.r .p) [.p 2]) (.c (.t (.r .p) [.p 3]) (.c (.t (.i .i64) []) (.t (.i .i64) []))))), .c (.o (.a .i8 98) []) (.c (.o (.a .i8 98) []) (.c (.o (.a .i64 9) []) (.o (.i .i64) [])))⟩, [⟨0, ⟨[0, 1, 2, 7], .c (.t (.r .p) [.p 0]) (.c (.t (.r .p) [.p 1]) (.c (.t (.r .p) [.p 2]) (.t (.i .i64) []))), .c (.o (.a .i8 98) []) (.c (.o (.a .i8 98) []) (.o (.a .i64 9) []))⟩⟩], fun v => f_board_Start_l2 n v.1.2.2.2.2.1 v.1.2.2.2.2.2 v.2.1 v.2.2.1 v.2.2.2.1 v.2.2.2.2⟩
def f_board_Start_l0_c (n : Nat) : Cs := ⟨0, [], ⟨[0, 1, 2, 7], .c (.t (.r .p) [.p 0]) (.c (.t (.r .p) [.p 1]) (.c (.t (.r .p) [.p 2]) (.t (.i .i64) []))), .c (.o (.a .i8 98) []) (.c (.o (.a .i8 98) []) (.o (.a .i64 9) []))⟩, [⟨0, ⟨[0, 1], .c (.t (.r .p) [.p 0]) (.t (.r .p) [.p 1]), .c (.o (.a .i8 98) []) (.o (.a .i8 98) [])⟩⟩], fun v => f_board_Start_l0 n v.1.2.2.2 v.2.1 v.2.2.1 v.2.2.2⟩
def f_board_Start_e (n : Nat) : Env := en [(40, f_board_Start_1_c n), (42, f_piece_Of_c n), (41, f_set_Square_c n)] [(14, [1]), (15, [1])] [] [(2, f_board_Start_l2_c n), (0, f_board_Start_l0_c n)]
theorem f_board_Start_a (X : Cx Tryz.prog K Gl) (n : Nat) : FAll Tryz.prog K Gl [(40, f_board_Start_1_c n), (42, f_piece_Of_c n), (41, f_set_Square_c n)] := (fcons (f_board_Start_1_ok X n) (fcons (f_piece_Of_ok X n) (fcons (f_set_Square_ok X n) fnil)))
theorem f_board_Start_l2_k (n : Nat) (p : Nat) (v : (f_board_Start_l2_c n).s.X) : run (f_board_Start_e n) (lbody 2 (bodyOf Tryz.f24)) ((f_board_Start_l2_c n).s.st Tryz.f24.ntmps v) (kloop 2 (f_board_Start_l2_c n) (fun v => f_board_Start_l2_i n p v.1.2.2.2.2.1 v.1.2.2.2.2.2 v.2.1 v.2.2.1 v.2.2.2.1 v.2.2.2.2)) = f_board_Start_l2_i n (p + 1) v.1.2.2.2.2.1 v.1.2.2.2.2.2 v.2.1 v.2.2.1 v.2.2.2.1 v.2.2.2.2 := by kernel_rfl
theorem f_board_Start_l2_o (X : Cx Tryz.prog K Gl) (n : Nat) : SO Tryz.prog K Gl Tryz.f24.ntmps 0 (.block 2 (.loop (lbody 2 (bodyOf Tryz.f24)))) (f_board_Start_l2_c n) := loop_ok (E := f_board_Start_e n) (os := []) (s := f_board_Start_l2_c n) (n := n) X (tok _ _ _ _) rfl (f_board_Start_a X n) snil (by kernel_rfl) rfl (fun p (v : (f_board_Start_l2_c n).s.X) => f_board_Start_l2_i n p v.1.2.2.2.2.1 v.1.2.2.2.2.2 v.2.1 v.2.2.1 v.2.2.2.1 v.2.2.2.2) (fun _ => rfl) (f_board_Start_l2_k n) (fun _ => rfl)
theorem f_board_Start_l0_k (n : Nat) (p : Nat) (v : (f_board_Start_l0_c n).s.X) : run (f_board_Start_e n) (lbody 0 (bodyOf Tryz.f24)) ((f_board_Start_l0_c n).s.st Tryz.f24.ntmps v) (kloop 0 (f_board_Start_l0_c n) (fun v => f_board_Start_l0_i n p v.1.2.2.2 v.2.1 v.2.2.1 v.2.2.2)) = f_board_Start_l0_i n (p + 1) v.1.2.2.2 v.2.1 v.2.2.1 v.2.2.2 := by kernel_rfl
theorem f_board_Start_l0_o (X : Cx Tryz.prog K Gl) (n : Nat) : SO Tryz.prog K Gl Tryz.f24.ntmps 0 (.block 0 (.loop (lbody 0 (bodyOf Tryz.f24)))) (f_board_Start_l0_c n) := loop_ok (E := f_board_Start_e n) (os := [(.block 2 (.loop (lbody 2 (bodyOf Tryz.f24))), f_board_Start_l2_c n)]) (s := f_board_Start_l0_c n) (n := n) X (tok _ _ _ _) rfl (f_board_Start_a X n) (scons (f_board_Start_l2_o X n) snil) (by kernel_rfl) rfl (fun p (v : (f_board_Start_l0_c n).s.X) => f_board_Start_l0_i n p v.1.2.2.2 v.2.1 v.2.2.1 v.2.2.2) (fun _ => rfl) (f_board_Start_l0_k n) (fun _ => rfl)
theorem f_board_Start_k (n : Nat) (x : (f_board_Start_c n).a.X × (f_board_Start_c n).b.X) : run (f_board_Start_e n) (bodyOf Tryz.f24) (entry Tryz.f24.ntmps ((f_board_Start_c n).a.enc x.1) ((f_board_Start_c n).b.enc x.2)) (kfin (f_board_Start_e n) Tryz.f24 (f_board_Start_c n) (f_board_Start_c n).b.n) = (f_board_Start_c n).f x := by kernel_rfl
theorem f_board_Start_ok (X : Cx Tryz.prog K Gl) (n : Nat) : FOk Tryz.prog K Gl 24 (f_board_Start_c n) := func_ok (E := f_board_Start_e n) (fn := Tryz.f24) (cf := (f_board_Start_c n)) (os := [(.block 0 (.loop (lbody 0 (bodyOf Tryz.f24))), f_board_Start_l0_c n)]) X (tok _ _ _ _) rfl (f_board_Start_a X n) (scons (f_board_Start_l0_o X n) snil) (by kernel_rfl) Tryz.func24 (by kernel_rfl) (f_board_Start_k n)
def f_piece_Up_j9 (n : Nat) (u_ : Unit) : Option (Int × Unit) :=
 some (0, ())
def f_piece_Up (n : Nat) (kind0 : Int) : Option (Int × Unit × Unit) :=
 Br (eq kind0 1)
  (Br (eq kind0 1)
   (some (wa .i64 kind0 8, (), ()))
   (ob (f_piece_Up_j9 n ()) fun y1 =>
   some (y1.1, (), ())))
  (Br (eq kind0 2)
   (Br (eq kind0 2)
    (some (wa .i64 kind0 8, (), ()))
    (ob (f_piece_Up_j9 n ()) fun y2 =>
    some (y2.1, (), ())))
   (Br (eq kind0 3)
    (Br (eq kind0 3)
     (some (wa .i64 kind0 8, (), ()))
     (ob (f_piece_Up_j9 n ()) fun y3 =>
     some (y3.1, (), ())))
    (Br (eq kind0 4)
     (Br (eq kind0 4)
      (some (wa .i64 kind0 8, (), ()))
      (ob (f_piece_Up_j9 n ()) fun y4 =>
      some (y4.1, (), ())))
     (Br (eq kind0 6)
      (Br (eq kind0 6)
       (some (wa .i64 kind0 8, (), ()))
       (ob (f_piece_Up_j9 n ()) fun y5 =>
       some (y5.1, (), ())))
      (Br (eq kind0 7)
       (some (wa .i64 kind0 8, (), ()))
       (ob (f_piece_Up_j9 n ()) fun y6 =>
       some (y6.1, (), ())))))))
def f_piece_Up_c (n : Nat) : Cf := ⟨.t (.i .i64) [], .e, [⟨.t (.i .i64) [], .e, .e⟩], fun x => f_piece_Up n x.1⟩
def f_piece_Up_j9_c (n : Nat) : Cs := ⟨0, [], ⟨[], .e, .e⟩, [⟨1, ⟨[2], .t (.i .i64) [], .e⟩⟩], fun v => f_piece_Up_j9 n ()⟩
def f_piece_Up_e (n : Nat) : Env := en [] [] [(9, f_piece_Up_j9_c n)] []
theorem f_piece_Up_a (X : Cx Tryz.prog K Gl) (n : Nat) : FAll Tryz.prog K Gl [] := fnil
theorem f_piece_Up_j9_k (n : Nat) (v : (f_piece_Up_j9_c n).s.X) : run (f_piece_Up_e n) (jbody 9 (bodyOf Tryz.f89)) ((f_piece_Up_j9_c n).s.st Tryz.f89.ntmps v) (decS 0 (f_piece_Up_j9_c n).x) = (f_piece_Up_j9_c n).f v := by kernel_rfl
theorem f_piece_Up_j9_o (X : Cx Tryz.prog K Gl) (n : Nat) : SO Tryz.prog K Gl Tryz.f89.ntmps 0 (jbody 9 (bodyOf Tryz.f89)) (f_piece_Up_j9_c n) := join_ok (E := f_piece_Up_e n) (os := []) X (tok _ _ _ _) rfl (f_piece_Up_a X n) snil (by kernel_rfl) rfl (f_piece_Up_j9_k n)
theorem f_piece_Up_k (n : Nat) (x : (f_piece_Up_c n).a.X × (f_piece_Up_c n).b.X) : run (f_piece_Up_e n) (bodyOf Tryz.f89) (entry Tryz.f89.ntmps ((f_piece_Up_c n).a.enc x.1) ((f_piece_Up_c n).b.enc x.2)) (kfin (f_piece_Up_e n) Tryz.f89 (f_piece_Up_c n) (f_piece_Up_c n).b.n) = (f_piece_Up_c n).f x := by kernel_rfl
theorem f_piece_Up_ok (X : Cx Tryz.prog K Gl) (n : Nat) : FOk Tryz.prog K Gl 89 (f_piece_Up_c n) := func_ok (E := f_piece_Up_e n) (fn := Tryz.f89) (cf := (f_piece_Up_c n)) (os := [(jbody 9 (bodyOf Tryz.f89), f_piece_Up_j9_c n)]) X (tok _ _ _ _) rfl (f_piece_Up_a X n) (scons (f_piece_Up_j9_o X n) snil) (by kernel_rfl) Tryz.func89 (by kernel_rfl) (f_piece_Up_k n)
def f_piece_Parse_l0_s (n : Nat) (r : Int → Bool → Int → (ByteArray × Nat) → Option ((Int × Unit) ⊕ (Unit × Unit))) (letter4 : Int) (promoted5 : Bool) (side6 : Int) (h7 : ByteArray × Nat) : Option ((Int × Unit) ⊕ (Unit × Unit)) :=
 Br (lt (h7.2 : Int) (len h7.1))
  (Br (eq (h7.2 : Int) 0)
   (r letter4 promoted5 side6 (h7.1, widD h7.1 h7.2))
   (Br (!(eq (runeD h7.1 h7.2) letter4))
    (r letter4 promoted5 side6 (h7.1, widD h7.1 h7.2))
    (Br (promoted5)
     (ob (f_piece_Up n (h7.2 : Int)) fun y9 =>
     ob (f_piece_Of side6 y9.1) fun y10 =>
     some (.inl (y10.1, ())))
     (ob (f_piece_Of side6 (h7.2 : Int)) fun y11 =>
     some (.inl (y11.1, ()))))))
  (some (.inr ((), ())))
def f_piece_Parse_l0_i (n : Nat) : Nat → Int → Bool → Int → (ByteArray × Nat) → Option ((Int × Unit) ⊕ (Unit × Unit))
 | 0, _, _, _, _ => none
 | m + 1, letter4, promoted5, side6, h7 => f_piece_Parse_l0_s n (f_piece_Parse_l0_i n m) letter4 promoted5 side6 h7
def f_piece_Parse_l0 (n : Nat) := f_piece_Parse_l0_i n n
def f_piece_Parse_j5 (n : Nat) (letter1 : Int) (promoted2 : Bool) (side3 : Int) : Option (Int × Unit) :=
 ob (f_piece_Parse_l0 n letter1 promoted2 side3 ((⟨#[32, 80, 76, 78, 83, 71, 66, 82, 75]⟩ : ByteArray), 0)) fun y15 =>
 sm y15 (fun y16 =>
  some (y16.1, ()))
  (fun y17 =>
  some (0, ()))
def f_piece_Parse (n : Nat) (letter0 : Int) (promoted1 : Bool) : Option (Int × Unit × Unit) :=
 Br (le 97 letter0)
  (Br (le letter0 122)
   (ob (f_piece_Parse_j5 n (ws .i32 letter0 32) promoted1 1) fun y18 =>
   some (y18.1, (), ()))
   (ob (f_piece_Parse_j5 n letter0 promoted1 0) fun y19 =>
   some (y19.1, (), ())))
  (ob (f_piece_Parse_j5 n letter0 promoted1 0) fun y20 =>
  some (y20.1, (), ()))
def f_piece_Parse_c (n : Nat) : Cf := ⟨.c (.t (.i .i32) []) (.t (.b) []), .e, [⟨.t (.i .i8) [], .e, .e⟩], fun x => f_piece_Parse n x.1.1 x.1.2⟩
def f_piece_Parse_l0_c (n : Nat) : Cs := ⟨0, [], ⟨[0, 1, 5, 16], .c (.t (.i .i32) []) (.c (.t (.b) []) (.c (.t (.i .i64) []) (.it 0))), .it⟩, [⟨1, ⟨[4], .t (.i .i8) [], .e⟩⟩, ⟨0, ⟨[], .e, .e⟩⟩], fun v => f_piece_Parse_l0 n v.1.1 v.1.2.1 v.1.2.2.1 v.2⟩
def f_piece_Parse_j5_c (n : Nat) : Cs := ⟨0, [], ⟨[0, 1, 5], .c (.t (.i .i32) []) (.c (.t (.b) []) (.t (.i .i64) [])), .e⟩, [⟨1, ⟨[4], .t (.i .i8) [], .e⟩⟩], fun v => f_piece_Parse_j5 n v.1.1 v.1.2.1 v.1.2.2⟩
def f_piece_Parse_e (n : Nat) : Env := en [(89, f_piece_Up_c n), (42, f_piece_Of_c n)] [] [(5, f_piece_Parse_j5_c n)] [(0, f_piece_Parse_l0_c n)]
theorem f_piece_Parse_a (X : Cx Tryz.prog K Gl) (n : Nat) : FAll Tryz.prog K Gl [(89, f_piece_Up_c n), (42, f_piece_Of_c n)] := (fcons (f_piece_Up_ok X n) (fcons (f_piece_Of_ok X n) fnil))
theorem f_piece_Parse_l0_k (n : Nat) (p : Nat) (v : (f_piece_Parse_l0_c n).s.X) : run (f_piece_Parse_e n) (lbody 0 (bodyOf Tryz.f54)) ((f_piece_Parse_l0_c n).s.st Tryz.f54.ntmps v) (kloop 0 (f_piece_Parse_l0_c n) (fun v => f_piece_Parse_l0_i n p v.1.1 v.1.2.1 v.1.2.2.1 v.2)) = f_piece_Parse_l0_i n (p + 1) v.1.1 v.1.2.1 v.1.2.2.1 v.2 := by kernel_rfl
theorem f_piece_Parse_l0_o (X : Cx Tryz.prog K Gl) (n : Nat) : SO Tryz.prog K Gl Tryz.f54.ntmps 0 (.block 0 (.loop (lbody 0 (bodyOf Tryz.f54)))) (f_piece_Parse_l0_c n) := loop_ok (E := f_piece_Parse_e n) (os := []) (s := f_piece_Parse_l0_c n) (n := n) X (tok _ _ _ _) rfl (f_piece_Parse_a X n) snil (by kernel_rfl) rfl (fun p (v : (f_piece_Parse_l0_c n).s.X) => f_piece_Parse_l0_i n p v.1.1 v.1.2.1 v.1.2.2.1 v.2) (fun _ => rfl) (f_piece_Parse_l0_k n) (fun _ => rfl)
theorem f_piece_Parse_j5_k (n : Nat) (v : (f_piece_Parse_j5_c n).s.X) : run (f_piece_Parse_e n) (jbody 5 (bodyOf Tryz.f54)) ((f_piece_Parse_j5_c n).s.st Tryz.f54.ntmps v) (decS 0 (f_piece_Parse_j5_c n).x) = (f_piece_Parse_j5_c n).f v := by kernel_rfl
theorem f_piece_Parse_j5_o (X : Cx Tryz.prog K Gl) (n : Nat) : SO Tryz.prog K Gl Tryz.f54.ntmps 0 (jbody 5 (bodyOf Tryz.f54)) (f_piece_Parse_j5_c n) := join_ok (E := f_piece_Parse_e n) (os := [(.block 0 (.loop (lbody 0 (bodyOf Tryz.f54))), f_piece_Parse_l0_c n)]) X (tok _ _ _ _) rfl (f_piece_Parse_a X n) (scons (f_piece_Parse_l0_o X n) snil) (by kernel_rfl) rfl (f_piece_Parse_j5_k n)
theorem f_piece_Parse_k (n : Nat) (x : (f_piece_Parse_c n).a.X × (f_piece_Parse_c n).b.X) : run (f_piece_Parse_e n) (bodyOf Tryz.f54) (entry Tryz.f54.ntmps ((f_piece_Parse_c n).a.enc x.1) ((f_piece_Parse_c n).b.enc x.2)) (kfin (f_piece_Parse_e n) Tryz.f54 (f_piece_Parse_c n) (f_piece_Parse_c n).b.n) = (f_piece_Parse_c n).f x := by kernel_rfl
theorem f_piece_Parse_ok (X : Cx Tryz.prog K Gl) (n : Nat) : FOk Tryz.prog K Gl 54 (f_piece_Parse_c n) := func_ok (E := f_piece_Parse_e n) (fn := Tryz.f54) (cf := (f_piece_Parse_c n)) (os := [(jbody 5 (bodyOf Tryz.f54), f_piece_Parse_j5_c n)]) X (tok _ _ _ _) rfl (f_piece_Parse_a X n) (scons (f_piece_Parse_j5_o X n) snil) (by kernel_rfl) Tryz.func54 (by kernel_rfl) (f_piece_Parse_k n)
def f_sfen_ranks_j26 (n : Nat) (file16 : Int) (rank17 : Int) (plus18 : Bool) (x19 : Int) (h20 : List Int) (h21 : List Int) (h22 : ByteArray × Nat) : Option ((Unit × Unit × Int × Int × Bool × Int × Unit) × List Int × List Int × ByteArray × Nat) :=
 some (((), (), file16, rank17, plus18, x19, ()), h20, h21, h22.1, h22.2)
def f_sfen_ranks_l0_s (n : Nat) (r : Int → Int → Bool → Int → List Int → List Int → (ByteArray × Nat) → Option (((Unit × Bool) × List Int) ⊕ ((Unit × Unit × Int × Int × Bool) × List Int × List Int))) (file1 : Int) (rank2 : Int) (plus3 : Bool) (last4 : Int) (h5 : List Int) (h6 : List Int) (h7 : ByteArray × Nat) : Option (((Unit × Bool) × List Int) ⊕ ((Unit × Unit × Int × Int × Bool) × List Int × List Int)) :=
 Br (lt (h7.2 : Int) (len h7.1))
  (Br (eq (runeD h7.1 h7.2) 47)
   (Br (!(eq file1 (-1)))
    (some (.inl (((), false), h6)))
    (Br (plus3)
     (some (.inl (((), false), h6)))
     (Br (eq rank2 8)
      (some (.inl (((), false), h6)))
      (ob (f_sfen_ranks_j26 n 8 (wa .i64 rank2 1) plus3 (runeD h7.1 h7.2) h5 h6 (h7.1, widD h7.1 h7.2)) fun y23 =>
      r y23.1.2.2.1 y23.1.2.2.2.1 y23.1.2.2.2.2.1 y23.1.2.2.2.2.2.1 y23.2.1 y23.2.2.1 (y23.2.2.2.1, y23.2.2.2.2)))))
   (Br (le 49 (runeD h7.1 h7.2))
    (Br (le (runeD h7.1 h7.2) 57)
     (Br (plus3)
      (some (.inl (((), false), h6)))
      (Br (lt (ws .i64 file1 (wr .i64 (ws .i32 (runeD h7.1 h7.2) 48))) (-1))
       (some (.inl (((), false), h6)))
       (Br (le 49 last4)
        (Br (le last4 57)
         (some (.inl (((), false), h6)))
         (ob (f_sfen_ranks_j26 n (ws .i64 file1 (wr .i64 (ws .i32 (runeD h7.1 h7.2) 48))) rank2 plus3 (runeD h7.1 h7.2) h5 h6 (h7.1, widD h7.1 h7.2)) fun y24 =>
         r y24.1.2.2.1 y24.1.2.2.2.1 y24.1.2.2.2.2.1 y24.1.2.2.2.2.2.1 y24.2.1 y24.2.2.1 (y24.2.2.2.1, y24.2.2.2.2)))
        (ob (f_sfen_ranks_j26 n (ws .i64 file1 (wr .i64 (ws .i32 (runeD h7.1 h7.2) 48))) rank2 plus3 (runeD h7.1 h7.2) h5 h6 (h7.1, widD h7.1 h7.2)) fun y25 =>
        r y25.1.2.2.1 y25.1.2.2.2.1 y25.1.2.2.2.2.1 y25.1.2.2.2.2.2.1 y25.2.1 y25.2.2.1 (y25.2.2.2.1, y25.2.2.2.2)))))
     (Br (eq (runeD h7.1 h7.2) 43)
      (Br (plus3)
       (some (.inl (((), false), h6)))
       (ob (f_sfen_ranks_j26 n file1 rank2 true (runeD h7.1 h7.2) h5 h6 (h7.1, widD h7.1 h7.2)) fun y26 =>
       r y26.1.2.2.1 y26.1.2.2.2.1 y26.1.2.2.2.2.1 y26.1.2.2.2.2.2.1 y26.2.1 y26.2.2.1 (y26.2.2.2.1, y26.2.2.2.2)))
      (ob (f_piece_Parse n (runeD h7.1 h7.2) plus3) fun y28 =>
      Br (eq y28.1 0)
       (some (.inl (((), false), h6)))
       (Br (lt file1 0)
        (some (.inl (((), false), h6)))
        (ob (f_set_Square file1 rank2) fun y30 =>
        Br (inr y30.1 81)
         (ob (f_sfen_ranks_j26 n (ws .i64 file1 1) rank2 false (runeD h7.1 h7.2) h5 (h6.set y30.1.toNat y28.1) (h7.1, widD h7.1 h7.2)) fun y31 =>
         r y31.1.2.2.1 y31.1.2.2.2.1 y31.1.2.2.2.2.1 y31.1.2.2.2.2.2.1 y31.2.1 y31.2.2.1 (y31.2.2.2.1, y31.2.2.2.2))
         (none))))))
    (Br (eq (runeD h7.1 h7.2) 43)
     (Br (plus3)
      (some (.inl (((), false), h6)))
      (ob (f_sfen_ranks_j26 n file1 rank2 true (runeD h7.1 h7.2) h5 h6 (h7.1, widD h7.1 h7.2)) fun y32 =>
      r y32.1.2.2.1 y32.1.2.2.2.1 y32.1.2.2.2.2.1 y32.1.2.2.2.2.2.1 y32.2.1 y32.2.2.1 (y32.2.2.2.1, y32.2.2.2.2)))
     (ob (f_piece_Parse n (runeD h7.1 h7.2) plus3) fun y34 =>
     Br (eq y34.1 0)
      (some (.inl (((), false), h6)))
      (Br (lt file1 0)
       (some (.inl (((), false), h6)))
       (ob (f_set_Square file1 rank2) fun y36 =>
       Br (inr y36.1 81)
        (ob (f_sfen_ranks_j26 n (ws .i64 file1 1) rank2 false (runeD h7.1 h7.2) h5 (h6.set y36.1.toNat y34.1) (h7.1, widD h7.1 h7.2)) fun y37 =>
        r y37.1.2.2.1 y37.1.2.2.2.1 y37.1.2.2.2.2.1 y37.1.2.2.2.2.2.1 y37.2.1 y37.2.2.1 (y37.2.2.2.1, y37.2.2.2.2))
        (none)))))))
  (some (.inr (((), (), file1, rank2, plus3), h5, h6)))
def f_sfen_ranks_l0_i (n : Nat) : Nat → Int → Int → Bool → Int → List Int → List Int → (ByteArray × Nat) → Option (((Unit × Bool) × List Int) ⊕ ((Unit × Unit × Int × Int × Bool) × List Int × List Int))
 | 0, _, _, _, _, _, _, _ => none
 | m + 1, file1, rank2, plus3, last4, h5, h6, h7 => f_sfen_ranks_l0_s n (f_sfen_ranks_l0_i n m) file1 rank2 plus3 last4 h5 h6 h7
def f_sfen_ranks_l0 (n : Nat) := f_sfen_ranks_l0_i n n
def f_sfen_ranks (n : Nat) (s0 : ByteArray) : Option ((List Int × Bool) × Unit × Unit) :=
 ob (f_sfen_ranks_l0 n 8 0 false 32 (List.replicate 81 0) (List.replicate 81 0) (s0, 0)) fun y41 =>
 sm y41 (fun y42 =>
  some ((y42.2, y42.1.2), (), ()))
  (fun y43 =>
  Br (eq y43.1.2.2.1 (-1))
   (Br (eq y43.1.2.2.2.1 8)
    (some ((y43.2.2, !y43.1.2.2.2.2), (), ()))
    (some ((y43.2.2, false), (), ())))
   (some ((y43.2.2, false), (), ())))
def f_sfen_ranks_c (n : Nat) : Cf := ⟨.t (.s) [], .e, [⟨.tu (.c (.t (.a .i8 81) []) (.t (.b) [])), .e, .e⟩], fun x => f_sfen_ranks n x.1⟩
def f_sfen_ranks_j26_c (n : Nat) : Cs := ⟨0, [], ⟨[2, 4, 5, 6, 7, 10, 13], .c (.t (.r .p) [.p 0]) (.c (.t (.r .p) [.p 1]) (.c (.t (.i .i64) []) (.c (.t (.i .i64) []) (.c (.t (.b) []) (.c (.t (.i .i32) []) (.it 2)))))), .c (.o (.a .i8 81) []) (.c (.o (.a .i8 81) []) (.it))⟩, [⟨0, ⟨[2, 4, 5, 6, 7, 8, 13], .c (.t (.r .p) [.p 0]) (.c (.t (.r .p) [.p 1]) (.c (.t (.i .i64) []) (.c (.t (.i .i64) []) (.c (.t (.b) []) (.c (.t (.i .i32) []) (.it 2)))))), .c (.o (.a .i8 81) []) (.c (.o (.a .i8 81) []) (.it))⟩⟩], fun v => f_sfen_ranks_j26 n v.1.2.2.1 v.1.2.2.2.1 v.1.2.2.2.2.1 v.1.2.2.2.2.2.1 v.2.1 v.2.2.1 v.2.2.2⟩
def f_sfen_ranks_l0_c (n : Nat) : Cs := ⟨0, [], ⟨[2, 4, 5, 6, 7, 8, 13], .c (.t (.r .p) [.p 0]) (.c (.t (.r .p) [.p 1]) (.c (.t (.i .i64) []) (.c (.t (.i .i64) []) (.c (.t (.b) []) (.c (.t (.i .i32) []) (.it 2)))))), .c (.o (.a .i8 81) []) (.c (.o (.a .i8 81) []) (.it))⟩, [⟨1, ⟨[2, 3], .c (.t (.r .p) [.p 0]) (.t (.b) []), .o (.a .i8 81) []⟩⟩, ⟨0, ⟨[2, 4, 5, 6, 7], .c (.t (.r .p) [.p 0]) (.c (.t (.r .p) [.p 1]) (.c (.t (.i .i64) []) (.c (.t (.i .i64) []) (.t (.b) [])))), .c (.o (.a .i8 81) []) (.o (.a .i8 81) [])⟩⟩], fun v => f_sfen_ranks_l0 n v.1.2.2.1 v.1.2.2.2.1 v.1.2.2.2.2.1 v.1.2.2.2.2.2.1 v.2.1 v.2.2.1 v.2.2.2⟩
def f_sfen_ranks_e (n : Nat) : Env := en [(54, f_piece_Parse_c n), (41, f_set_Square_c n)] [] [(26, f_sfen_ranks_j26_c n)] [(0, f_sfen_ranks_l0_c n)]
theorem f_sfen_ranks_a (X : Cx Tryz.prog K Gl) (n : Nat) : FAll Tryz.prog K Gl [(54, f_piece_Parse_c n), (41, f_set_Square_c n)] := (fcons (f_piece_Parse_ok X n) (fcons (f_set_Square_ok X n) fnil))
theorem f_sfen_ranks_j26_k (n : Nat) (v : (f_sfen_ranks_j26_c n).s.X) : run (f_sfen_ranks_e n) (jbody 26 (bodyOf Tryz.f63)) ((f_sfen_ranks_j26_c n).s.st Tryz.f63.ntmps v) (decS 0 (f_sfen_ranks_j26_c n).x) = (f_sfen_ranks_j26_c n).f v := by kernel_rfl
theorem f_sfen_ranks_j26_o (X : Cx Tryz.prog K Gl) (n : Nat) : SO Tryz.prog K Gl Tryz.f63.ntmps 0 (jbody 26 (bodyOf Tryz.f63)) (f_sfen_ranks_j26_c n) := join_ok (E := f_sfen_ranks_e n) (os := []) X (tok _ _ _ _) rfl (f_sfen_ranks_a X n) snil (by kernel_rfl) rfl (f_sfen_ranks_j26_k n)
theorem f_sfen_ranks_l0_k (n : Nat) (p : Nat) (v : (f_sfen_ranks_l0_c n).s.X) : run (f_sfen_ranks_e n) (lbody 0 (bodyOf Tryz.f63)) ((f_sfen_ranks_l0_c n).s.st Tryz.f63.ntmps v) (kloop 0 (f_sfen_ranks_l0_c n) (fun v => f_sfen_ranks_l0_i n p v.1.2.2.1 v.1.2.2.2.1 v.1.2.2.2.2.1 v.1.2.2.2.2.2.1 v.2.1 v.2.2.1 v.2.2.2)) = f_sfen_ranks_l0_i n (p + 1) v.1.2.2.1 v.1.2.2.2.1 v.1.2.2.2.2.1 v.1.2.2.2.2.2.1 v.2.1 v.2.2.1 v.2.2.2 := by kernel_rfl
theorem f_sfen_ranks_l0_o (X : Cx Tryz.prog K Gl) (n : Nat) : SO Tryz.prog K Gl Tryz.f63.ntmps 0 (.block 0 (.loop (lbody 0 (bodyOf Tryz.f63)))) (f_sfen_ranks_l0_c n) := loop_ok (E := f_sfen_ranks_e n) (os := [(jbody 26 (bodyOf Tryz.f63), f_sfen_ranks_j26_c n)]) (s := f_sfen_ranks_l0_c n) (n := n) X (tok _ _ _ _) rfl (f_sfen_ranks_a X n) (scons (f_sfen_ranks_j26_o X n) snil) (by kernel_rfl) rfl (fun p (v : (f_sfen_ranks_l0_c n).s.X) => f_sfen_ranks_l0_i n p v.1.2.2.1 v.1.2.2.2.1 v.1.2.2.2.2.1 v.1.2.2.2.2.2.1 v.2.1 v.2.2.1 v.2.2.2) (fun _ => rfl) (f_sfen_ranks_l0_k n) (fun _ => rfl)
theorem f_sfen_ranks_k (n : Nat) (x : (f_sfen_ranks_c n).a.X × (f_sfen_ranks_c n).b.X) : run (f_sfen_ranks_e n) (bodyOf Tryz.f63) (entry Tryz.f63.ntmps ((f_sfen_ranks_c n).a.enc x.1) ((f_sfen_ranks_c n).b.enc x.2)) (kfin (f_sfen_ranks_e n) Tryz.f63 (f_sfen_ranks_c n) (f_sfen_ranks_c n).b.n) = (f_sfen_ranks_c n).f x := by kernel_rfl
theorem f_sfen_ranks_ok (X : Cx Tryz.prog K Gl) (n : Nat) : FOk Tryz.prog K Gl 63 (f_sfen_ranks_c n) := func_ok (E := f_sfen_ranks_e n) (fn := Tryz.f63) (cf := (f_sfen_ranks_c n)) (os := [(.block 0 (.loop (lbody 0 (bodyOf Tryz.f63))), f_sfen_ranks_l0_c n)]) X (tok _ _ _ _) rfl (f_sfen_ranks_a X n) (scons (f_sfen_ranks_l0_o X n) snil) (by kernel_rfl) Tryz.func63 (by kernel_rfl) (f_sfen_ranks_k n)
def f_piece_Kind (p0 : Int) : Option (Int × Unit × Unit) :=
 Br (le p0 0)
  (Br (eq p0 8)
   (some (8, (), ()))
   (Br (eq p0 24)
    (some (8, (), ()))
    (some (0, (), ()))))
  (Br (lt 31 p0)
   (Br (eq p0 8)
    (some (8, (), ()))
    (Br (eq p0 24)
     (some (8, (), ()))
     (some (0, (), ()))))
   (Br (eq (ban .i64 (wr .i64 p0) 15) 0)
    (Br (eq p0 8)
     (some (8, (), ()))
     (Br (eq p0 24)
      (some (8, (), ()))
      (some (0, (), ()))))
    (Br (eq (ban .i64 (wr .i64 p0) 15) 13)
     (Br (eq p0 8)
      (some (8, (), ()))
      (Br (eq p0 24)
       (some (8, (), ()))
       (some (0, (), ()))))
     (some (ban .i64 (wr .i64 p0) 15, (), ())))))
def f_piece_Kind_c (n : Nat) : Cf := ⟨.t (.i .i8) [], .e, [⟨.t (.i .i64) [], .e, .e⟩], fun x => f_piece_Kind x.1⟩
def f_piece_Kind_e (n : Nat) : Env := en [] [] [] []
theorem f_piece_Kind_a (X : Cx Tryz.prog K Gl) (n : Nat) : FAll Tryz.prog K Gl [] := fnil
theorem f_piece_Kind_k (n : Nat) (x : (f_piece_Kind_c n).a.X × (f_piece_Kind_c n).b.X) : run (f_piece_Kind_e n) (bodyOf Tryz.f90) (entry Tryz.f90.ntmps ((f_piece_Kind_c n).a.enc x.1) ((f_piece_Kind_c n).b.enc x.2)) (kfin (f_piece_Kind_e n) Tryz.f90 (f_piece_Kind_c n) (f_piece_Kind_c n).b.n) = (f_piece_Kind_c n).f x := by kernel_rfl
theorem f_piece_Kind_ok (X : Cx Tryz.prog K Gl) (n : Nat) : FOk Tryz.prog K Gl 90 (f_piece_Kind_c n) := func_ok (E := f_piece_Kind_e n) (fn := Tryz.f90) (cf := (f_piece_Kind_c n)) (os := []) X (tok _ _ _ _) rfl (f_piece_Kind_a X n) snil (by kernel_rfl) Tryz.func90 (by kernel_rfl) (f_piece_Kind_k n)
def f_piece_Side (p0 : Int) : Option (Int × Unit × Unit) :=
 ob (f_piece_Kind p0) fun y2 =>
 Br (eq y2.1 0)
  (some ((-1), (), ()))
  (Br (lt p0 16)
   (some (0, (), ()))
   (some (1, (), ())))
def f_piece_Side_c (n : Nat) : Cf := ⟨.t (.i .i8) [], .e, [⟨.t (.i .i64) [], .e, .e⟩], fun x => f_piece_Side x.1⟩
def f_piece_Side_e (n : Nat) : Env := en [(90, f_piece_Kind_c n)] [] [] []
theorem f_piece_Side_a (X : Cx Tryz.prog K Gl) (n : Nat) : FAll Tryz.prog K Gl [(90, f_piece_Kind_c n)] := (fcons (f_piece_Kind_ok X n) fnil)
theorem f_piece_Side_k (n : Nat) (x : (f_piece_Side_c n).a.X × (f_piece_Side_c n).b.X) : run (f_piece_Side_e n) (bodyOf Tryz.f56) (entry Tryz.f56.ntmps ((f_piece_Side_c n).a.enc x.1) ((f_piece_Side_c n).b.enc x.2)) (kfin (f_piece_Side_e n) Tryz.f56 (f_piece_Side_c n) (f_piece_Side_c n).b.n) = (f_piece_Side_c n).f x := by kernel_rfl
theorem f_piece_Side_ok (X : Cx Tryz.prog K Gl) (n : Nat) : FOk Tryz.prog K Gl 56 (f_piece_Side_c n) := func_ok (E := f_piece_Side_e n) (fn := Tryz.f56) (cf := (f_piece_Side_c n)) (os := []) X (tok _ _ _ _) rfl (f_piece_Side_a X n) snil (by kernel_rfl) Tryz.func56 (by kernel_rfl) (f_piece_Side_k n)
def f_sfen_hands_j17 (n : Nat) (s20 : ByteArray) (n21 : Int) (p22 : Int) (k23 : Int) (h24 : List Int) (h25 : List Int) (h26 : ByteArray × Nat) : Option ((ByteArray × Unit × Unit × Int × Int × Unit) × List Int × List Int × ByteArray × Nat) :=
 ob (f_piece_Side p22) fun y28 =>
 Br (inr y28.1 2)
  (Br (inr k23 8)
   (some ((s20, (), (), 0, 0, ()), h24, h25.set ((y28.1.toNat * 8) + k23.toNat) (wr .i8 (bif lt 1 n21 then n21 else 1)), h26.1, h26.2))
   (none))
  (none)
def f_sfen_hands_j13 (n : Nat) (s7 : ByteArray) (n8 : Int) (digits9 : Int) (x10 : Int) (h11 : List Int) (h12 : List Int) (h13 : ByteArray × Nat) : Option (((Unit × Bool) × List Int) ⊕ ((ByteArray × Unit × Unit × Int × Int × Unit) × List Int × List Int × ByteArray × Nat)) :=
 ob (f_piece_Parse n x10 false) fun y15 =>
 ob (f_piece_Kind y15.1) fun y17 =>
 Br (eq y17.1 0)
  (some (.inl (((), false), h12)))
  (Br (eq y17.1 8)
   (some (.inl (((), false), h12)))
   (Br (lt 0 digits9)
    (Br (lt 18 n8)
     (some (.inl (((), false), h12)))
     (ob (f_piece_Side y15.1) fun y29 =>
     Br (inr y29.1 2)
      (Br (inr y17.1 8)
       (Br (!(eq (h12.getD ((y29.1.toNat * 8) + y17.1.toNat) 0) 0))
        (some (.inl (((), false), h12)))
        (ob (f_sfen_hands_j17 n s7 n8 y15.1 y17.1 h11 h12 (h13.1, h13.2)) fun y30 =>
        some (.inr ((y30.1.1, y30.1.2.1, y30.1.2.2.1, y30.1.2.2.2.1, y30.1.2.2.2.2.1, ()), y30.2.1, y30.2.2.1, y30.2.2.2.1, y30.2.2.2.2))))
       (none))
      (none)))
    (ob (f_piece_Side y15.1) fun y31 =>
    Br (inr y31.1 2)
     (Br (inr y17.1 8)
      (Br (!(eq (h12.getD ((y31.1.toNat * 8) + y17.1.toNat) 0) 0))
       (some (.inl (((), false), h12)))
       (ob (f_sfen_hands_j17 n s7 n8 y15.1 y17.1 h11 h12 (h13.1, h13.2)) fun y32 =>
       some (.inr ((y32.1.1, y32.1.2.1, y32.1.2.2.1, y32.1.2.2.2.1, y32.1.2.2.2.2.1, ()), y32.2.1, y32.2.2.1, y32.2.2.2.1, y32.2.2.2.2))))
      (none))
     (none))))
def f_sfen_hands_l0_s (n : Nat) (r : ByteArray → Int → Int → List Int → List Int → (ByteArray × Nat) → Option (((Unit × Bool) × List Int) ⊕ ((ByteArray × Unit × Unit × Int) × List Int × List Int))) (s1 : ByteArray) (n2 : Int) (digits3 : Int) (h4 : List Int) (h5 : List Int) (h6 : ByteArray × Nat) : Option (((Unit × Bool) × List Int) ⊕ ((ByteArray × Unit × Unit × Int) × List Int × List Int)) :=
 Br (lt (h6.2 : Int) (len h6.1))
  (Br (le 48 (runeD h6.1 h6.2))
   (Br (le (runeD h6.1 h6.2) 57)
    (Br (eq digits3 2)
     (some (.inl (((), false), h5)))
     (Br (eq (wa .i64 (wm .i64 10 n2) (wr .i64 (ws .i32 (runeD h6.1 h6.2) 48))) 0)
      (some (.inl (((), false), h5)))
      (r s1 (wa .i64 (wm .i64 10 n2) (wr .i64 (ws .i32 (runeD h6.1 h6.2) 48))) (wa .i64 digits3 1) h4 h5 (h6.1, widD h6.1 h6.2))))
    (ob (f_sfen_hands_j13 n s1 n2 digits3 (runeD h6.1 h6.2) h4 h5 (h6.1, widD h6.1 h6.2)) fun y33 =>
    sm y33 (fun y34 =>
     some (.inl ((y34.1.1, y34.1.2), y34.2)))
     (fun y35 =>
     r y35.1.1 y35.1.2.2.2.1 y35.1.2.2.2.2.1 y35.2.1 y35.2.2.1 (y35.2.2.2.1, y35.2.2.2.2))))
   (ob (f_sfen_hands_j13 n s1 n2 digits3 (runeD h6.1 h6.2) h4 h5 (h6.1, widD h6.1 h6.2)) fun y36 =>
   sm y36 (fun y37 =>
    some (.inl ((y37.1.1, y37.1.2), y37.2)))
    (fun y38 =>
    r y38.1.1 y38.1.2.2.2.1 y38.1.2.2.2.2.1 y38.2.1 y38.2.2.1 (y38.2.2.2.1, y38.2.2.2.2))))
  (some (.inr ((s1, (), (), digits3), h4, h5)))
def f_sfen_hands_l0_i (n : Nat) : Nat → ByteArray → Int → Int → List Int → List Int → (ByteArray × Nat) → Option (((Unit × Bool) × List Int) ⊕ ((ByteArray × Unit × Unit × Int) × List Int × List Int))
 | 0, _, _, _, _, _, _ => none
 | m + 1, s1, n2, digits3, h4, h5, h6 => f_sfen_hands_l0_s n (f_sfen_hands_l0_i n m) s1 n2 digits3 h4 h5 h6
def f_sfen_hands_l0 (n : Nat) := f_sfen_hands_l0_i n n
def f_sfen_hands (n : Nat) (s0 : ByteArray) : Option ((List Int × Bool) × Unit × Unit) :=
 Br (seq s0 (⟨#[45]⟩ : ByteArray))
  (some ((List.replicate 16 0, true), (), ()))
  (ob (f_sfen_hands_l0 n s0 0 0 (List.replicate 16 0) (List.replicate 16 0) (s0, 0)) fun y42 =>
  sm y42 (fun y43 =>
   some ((y43.2, y43.1.2), (), ()))
   (fun y44 =>
   Br (eq y44.1.2.2.2 0)
    (some ((y44.2.2, !(seq y44.1.1 (⟨#[]⟩ : ByteArray))), (), ()))
    (some ((y44.2.2, false), (), ()))))
def f_sfen_hands_c (n : Nat) : Cf := ⟨.t (.s) [], .e, [⟨.tu (.c (.t (.a .i8 16) []) (.t (.b) [])), .e, .e⟩], fun x => f_sfen_hands n x.1⟩
def f_sfen_hands_j17_c (n : Nat) : Cs := ⟨0, [], ⟨[0, 2, 4, 5, 9, 10, 15], .c (.t (.s) []) (.c (.t (.r .p) [.p 0]) (.c (.t (.r .p) [.p 1]) (.c (.t (.i .i64) []) (.c (.t (.i .i8) []) (.c (.t (.i .i64) []) (.it 2)))))), .c (.o (.a .i8 16) []) (.c (.o (.a .i8 16) []) (.it))⟩, [⟨0, ⟨[0, 2, 4, 5, 6, 15], .c (.t (.s) []) (.c (.t (.r .p) [.p 0]) (.c (.t (.r .p) [.p 1]) (.c (.t (.i .i64) []) (.c (.t (.i .i64) []) (.it 2))))), .c (.o (.a .i8 16) []) (.c (.o (.a .i8 16) []) (.it))⟩⟩], fun v => f_sfen_hands_j17 n v.1.1 v.1.2.2.2.1 v.1.2.2.2.2.1 v.1.2.2.2.2.2.1 v.2.1 v.2.2.1 v.2.2.2⟩
def f_sfen_hands_j13_c (n : Nat) : Cs := ⟨0, [], ⟨[0, 2, 4, 5, 6, 8, 15], .c (.t (.s) []) (.c (.t (.r .p) [.p 0]) (.c (.t (.r .p) [.p 1]) (.c (.t (.i .i64) []) (.c (.t (.i .i64) []) (.c (.t (.i .i32) []) (.it 2)))))), .c (.o (.a .i8 16) []) (.c (.o (.a .i8 16) []) (.it))⟩, [⟨1, ⟨[2, 3], .c (.t (.r .p) [.p 0]) (.t (.b) []), .o (.a .i8 16) []⟩⟩, ⟨0, ⟨[0, 2, 4, 5, 6, 15], .c (.t (.s) []) (.c (.t (.r .p) [.p 0]) (.c (.t (.r .p) [.p 1]) (.c (.t (.i .i64) []) (.c (.t (.i .i64) []) (.it 2))))), .c (.o (.a .i8 16) []) (.c (.o (.a .i8 16) []) (.it))⟩⟩], fun v => f_sfen_hands_j13 n v.1.1 v.1.2.2.2.1 v.1.2.2.2.2.1 v.1.2.2.2.2.2.1 v.2.1 v.2.2.1 v.2.2.2⟩
def f_sfen_hands_l0_c (n : Nat) : Cs := ⟨0, [], ⟨[0, 2, 4, 5, 6, 15], .c (.t (.s) []) (.c (.t (.r .p) [.p 0]) (.c (.t (.r .p) [.p 1]) (.c (.t (.i .i64) []) (.c (.t (.i .i64) []) (.it 2))))), .c (.o (.a .i8 16) []) (.c (.o (.a .i8 16) []) (.it))⟩, [⟨1, ⟨[2, 3], .c (.t (.r .p) [.p 0]) (.t (.b) []), .o (.a .i8 16) []⟩⟩, ⟨0, ⟨[0, 2, 4, 6], .c (.t (.s) []) (.c (.t (.r .p) [.p 0]) (.c (.t (.r .p) [.p 1]) (.t (.i .i64) []))), .c (.o (.a .i8 16) []) (.o (.a .i8 16) [])⟩⟩], fun v => f_sfen_hands_l0 n v.1.1 v.1.2.2.2.1 v.1.2.2.2.2.1 v.2.1 v.2.2.1 v.2.2.2⟩
def f_sfen_hands_e (n : Nat) : Env := en [(54, f_piece_Parse_c n), (90, f_piece_Kind_c n), (56, f_piece_Side_c n)] [] [(17, f_sfen_hands_j17_c n), (13, f_sfen_hands_j13_c n)] [(0, f_sfen_hands_l0_c n)]
theorem f_sfen_hands_a (X : Cx Tryz.prog K Gl) (n : Nat) : FAll Tryz.prog K Gl [(54, f_piece_Parse_c n), (90, f_piece_Kind_c n), (56, f_piece_Side_c n)] := (fcons (f_piece_Parse_ok X n) (fcons (f_piece_Kind_ok X n) (fcons (f_piece_Side_ok X n) fnil)))
theorem f_sfen_hands_j17_k (n : Nat) (v : (f_sfen_hands_j17_c n).s.X) : run (f_sfen_hands_e n) (jbody 17 (bodyOf Tryz.f64)) ((f_sfen_hands_j17_c n).s.st Tryz.f64.ntmps v) (decS 0 (f_sfen_hands_j17_c n).x) = (f_sfen_hands_j17_c n).f v := by kernel_rfl
theorem f_sfen_hands_j17_o (X : Cx Tryz.prog K Gl) (n : Nat) : SO Tryz.prog K Gl Tryz.f64.ntmps 0 (jbody 17 (bodyOf Tryz.f64)) (f_sfen_hands_j17_c n) := join_ok (E := f_sfen_hands_e n) (os := []) X (tok _ _ _ _) rfl (f_sfen_hands_a X n) snil (by kernel_rfl) rfl (f_sfen_hands_j17_k n)
theorem f_sfen_hands_j13_k (n : Nat) (v : (f_sfen_hands_j13_c n).s.X) : run (f_sfen_hands_e n) (jbody 13 (bodyOf Tryz.f64)) ((f_sfen_hands_j13_c n).s.st Tryz.f64.ntmps v) (decS 0 (f_sfen_hands_j13_c n).x) = (f_sfen_hands_j13_c n).f v := by kernel_rfl
theorem f_sfen_hands_j13_o (X : Cx Tryz.prog K Gl) (n : Nat) : SO Tryz.prog K Gl Tryz.f64.ntmps 0 (jbody 13 (bodyOf Tryz.f64)) (f_sfen_hands_j13_c n) := join_ok (E := f_sfen_hands_e n) (os := [(jbody 17 (bodyOf Tryz.f64), f_sfen_hands_j17_c n)]) X (tok _ _ _ _) rfl (f_sfen_hands_a X n) (scons (f_sfen_hands_j17_o X n) snil) (by kernel_rfl) rfl (f_sfen_hands_j13_k n)
theorem f_sfen_hands_l0_k (n : Nat) (p : Nat) (v : (f_sfen_hands_l0_c n).s.X) : run (f_sfen_hands_e n) (lbody 0 (bodyOf Tryz.f64)) ((f_sfen_hands_l0_c n).s.st Tryz.f64.ntmps v) (kloop 0 (f_sfen_hands_l0_c n) (fun v => f_sfen_hands_l0_i n p v.1.1 v.1.2.2.2.1 v.1.2.2.2.2.1 v.2.1 v.2.2.1 v.2.2.2)) = f_sfen_hands_l0_i n (p + 1) v.1.1 v.1.2.2.2.1 v.1.2.2.2.2.1 v.2.1 v.2.2.1 v.2.2.2 := by kernel_rfl
theorem f_sfen_hands_l0_o (X : Cx Tryz.prog K Gl) (n : Nat) : SO Tryz.prog K Gl Tryz.f64.ntmps 0 (.block 0 (.loop (lbody 0 (bodyOf Tryz.f64)))) (f_sfen_hands_l0_c n) := loop_ok (E := f_sfen_hands_e n) (os := [(jbody 13 (bodyOf Tryz.f64), f_sfen_hands_j13_c n)]) (s := f_sfen_hands_l0_c n) (n := n) X (tok _ _ _ _) rfl (f_sfen_hands_a X n) (scons (f_sfen_hands_j13_o X n) snil) (by kernel_rfl) rfl (fun p (v : (f_sfen_hands_l0_c n).s.X) => f_sfen_hands_l0_i n p v.1.1 v.1.2.2.2.1 v.1.2.2.2.2.1 v.2.1 v.2.2.1 v.2.2.2) (fun _ => rfl) (f_sfen_hands_l0_k n) (fun _ => rfl)
theorem f_sfen_hands_k (n : Nat) (x : (f_sfen_hands_c n).a.X × (f_sfen_hands_c n).b.X) : run (f_sfen_hands_e n) (bodyOf Tryz.f64) (entry Tryz.f64.ntmps ((f_sfen_hands_c n).a.enc x.1) ((f_sfen_hands_c n).b.enc x.2)) (kfin (f_sfen_hands_e n) Tryz.f64 (f_sfen_hands_c n) (f_sfen_hands_c n).b.n) = (f_sfen_hands_c n).f x := by kernel_rfl
theorem f_sfen_hands_ok (X : Cx Tryz.prog K Gl) (n : Nat) : FOk Tryz.prog K Gl 64 (f_sfen_hands_c n) := func_ok (E := f_sfen_hands_e n) (fn := Tryz.f64) (cf := (f_sfen_hands_c n)) (os := [(.block 0 (.loop (lbody 0 (bodyOf Tryz.f64))), f_sfen_hands_l0_c n)]) X (tok _ _ _ _) rfl (f_sfen_hands_a X n) (scons (f_sfen_hands_l0_o X n) snil) (by kernel_rfl) Tryz.func64 (by kernel_rfl) (f_sfen_hands_k n)
def f_piece_Raw (kind0 : Int) : Option (Int × Unit × Unit) :=
 ob (f_piece_Of 0 kind0) fun y2 =>
 Br (eq y2.1 0)
  (some (0, (), ()))
  (Br (lt 8 kind0)
   (some (ws .i64 kind0 8, (), ()))
   (some (kind0, (), ())))
def f_piece_Raw_c (n : Nat) : Cf := ⟨.t (.i .i64) [], .e, [⟨.t (.i .i64) [], .e, .e⟩], fun x => f_piece_Raw x.1⟩
def f_piece_Raw_e (n : Nat) : Env := en [(42, f_piece_Of_c n)] [] [] []
theorem f_piece_Raw_a (X : Cx Tryz.prog K Gl) (n : Nat) : FAll Tryz.prog K Gl [(42, f_piece_Of_c n)] := (fcons (f_piece_Of_ok X n) fnil)
theorem f_piece_Raw_k (n : Nat) (x : (f_piece_Raw_c n).a.X × (f_piece_Raw_c n).b.X) : run (f_piece_Raw_e n) (bodyOf Tryz.f91) (entry Tryz.f91.ntmps ((f_piece_Raw_c n).a.enc x.1) ((f_piece_Raw_c n).b.enc x.2)) (kfin (f_piece_Raw_e n) Tryz.f91 (f_piece_Raw_c n) (f_piece_Raw_c n).b.n) = (f_piece_Raw_c n).f x := by kernel_rfl
theorem f_piece_Raw_ok (X : Cx Tryz.prog K Gl) (n : Nat) : FOk Tryz.prog K Gl 91 (f_piece_Raw_c n) := func_ok (E := f_piece_Raw_e n) (fn := Tryz.f91) (cf := (f_piece_Raw_c n)) (os := []) X (tok _ _ _ _) rfl (f_piece_Raw_a X n) snil (by kernel_rfl) Tryz.func91 (by kernel_rfl) (f_piece_Raw_k n)
def f_piece_Total_j13 (n : Nat) (u_ : Unit) : Option (Int × Unit) :=
 some (0, ())
def f_piece_Total (n : Nat) (kind0 : Int) : Option (Int × Unit × Unit) :=
 Br (eq kind0 1)
  (some (18, (), ()))
  (Br (eq kind0 2)
   (Br (eq kind0 2)
    (some (4, (), ()))
    (Br (eq kind0 6)
     (Br (eq kind0 6)
      (some (2, (), ()))
      (ob (f_piece_Total_j13 n ()) fun y1 =>
      some (y1.1, (), ())))
     (Br (eq kind0 7)
      (Br (eq kind0 7)
       (some (2, (), ()))
       (ob (f_piece_Total_j13 n ()) fun y2 =>
       some (y2.1, (), ())))
      (Br (eq kind0 8)
       (some (2, (), ()))
       (ob (f_piece_Total_j13 n ()) fun y3 =>
       some (y3.1, (), ()))))))
   (Br (eq kind0 3)
    (Br (eq kind0 3)
     (some (4, (), ()))
     (Br (eq kind0 6)
      (Br (eq kind0 6)
       (some (2, (), ()))
       (ob (f_piece_Total_j13 n ()) fun y4 =>
       some (y4.1, (), ())))
      (Br (eq kind0 7)
       (Br (eq kind0 7)
        (some (2, (), ()))
        (ob (f_piece_Total_j13 n ()) fun y5 =>
        some (y5.1, (), ())))
       (Br (eq kind0 8)
        (some (2, (), ()))
        (ob (f_piece_Total_j13 n ()) fun y6 =>
        some (y6.1, (), ()))))))
    (Br (eq kind0 4)
     (Br (eq kind0 4)
      (some (4, (), ()))
      (Br (eq kind0 6)
       (Br (eq kind0 6)
        (some (2, (), ()))
        (ob (f_piece_Total_j13 n ()) fun y7 =>
        some (y7.1, (), ())))
       (Br (eq kind0 7)
        (Br (eq kind0 7)
         (some (2, (), ()))
         (ob (f_piece_Total_j13 n ()) fun y8 =>
         some (y8.1, (), ())))
        (Br (eq kind0 8)
         (some (2, (), ()))
         (ob (f_piece_Total_j13 n ()) fun y9 =>
         some (y9.1, (), ()))))))
     (Br (eq kind0 5)
      (some (4, (), ()))
      (Br (eq kind0 6)
       (Br (eq kind0 6)
        (some (2, (), ()))
        (ob (f_piece_Total_j13 n ()) fun y10 =>
        some (y10.1, (), ())))
       (Br (eq kind0 7)
        (Br (eq kind0 7)
         (some (2, (), ()))
         (ob (f_piece_Total_j13 n ()) fun y11 =>
         some (y11.1, (), ())))
        (Br (eq kind0 8)
         (some (2, (), ()))
         (ob (f_piece_Total_j13 n ()) fun y12 =>
         some (y12.1, (), ())))))))))
def f_piece_Total_c (n : Nat) : Cf := ⟨.t (.i .i64) [], .e, [⟨.t (.i .i64) [], .e, .e⟩], fun x => f_piece_Total n x.1⟩
def f_piece_Total_j13_c (n : Nat) : Cs := ⟨0, [], ⟨[], .e, .e⟩, [⟨1, ⟨[2], .t (.i .i64) [], .e⟩⟩], fun v => f_piece_Total_j13 n ()⟩
def f_piece_Total_e (n : Nat) : Env := en [] [] [(13, f_piece_Total_j13_c n)] []
theorem f_piece_Total_a (X : Cx Tryz.prog K Gl) (n : Nat) : FAll Tryz.prog K Gl [] := fnil
theorem f_piece_Total_j13_k (n : Nat) (v : (f_piece_Total_j13_c n).s.X) : run (f_piece_Total_e n) (jbody 13 (bodyOf Tryz.f120)) ((f_piece_Total_j13_c n).s.st Tryz.f120.ntmps v) (decS 0 (f_piece_Total_j13_c n).x) = (f_piece_Total_j13_c n).f v := by kernel_rfl
theorem f_piece_Total_j13_o (X : Cx Tryz.prog K Gl) (n : Nat) : SO Tryz.prog K Gl Tryz.f120.ntmps 0 (jbody 13 (bodyOf Tryz.f120)) (f_piece_Total_j13_c n) := join_ok (E := f_piece_Total_e n) (os := []) X (tok _ _ _ _) rfl (f_piece_Total_a X n) snil (by kernel_rfl) rfl (f_piece_Total_j13_k n)
theorem f_piece_Total_k (n : Nat) (x : (f_piece_Total_c n).a.X × (f_piece_Total_c n).b.X) : run (f_piece_Total_e n) (bodyOf Tryz.f120) (entry Tryz.f120.ntmps ((f_piece_Total_c n).a.enc x.1) ((f_piece_Total_c n).b.enc x.2)) (kfin (f_piece_Total_e n) Tryz.f120 (f_piece_Total_c n) (f_piece_Total_c n).b.n) = (f_piece_Total_c n).f x := by kernel_rfl
theorem f_piece_Total_ok (X : Cx Tryz.prog K Gl) (n : Nat) : FOk Tryz.prog K Gl 120 (f_piece_Total_c n) := func_ok (E := f_piece_Total_e n) (fn := Tryz.f120) (cf := (f_piece_Total_c n)) (os := [(jbody 13 (bodyOf Tryz.f120), f_piece_Total_j13_c n)]) X (tok _ _ _ _) rfl (f_piece_Total_a X n) (scons (f_piece_Total_j13_o X n) snil) (by kernel_rfl) Tryz.func120 (by kernel_rfl) (f_piece_Total_k n)
def f_set_Rank (q0 : Int) : Int × Unit × Unit :=
 (rm q0 9, (), ())
def f_set_Rank_c (n : Nat) : Cf := ⟨.t (.i .i64) [], .e, [⟨.t (.i .i64) [], .e, .e⟩], fun x => some (f_set_Rank x.1)⟩
def f_set_Rank_e (n : Nat) : Env := en [] [] [] []
theorem f_set_Rank_a (X : Cx Tryz.prog K Gl) (n : Nat) : FAll Tryz.prog K Gl [] := fnil
theorem f_set_Rank_k (n : Nat) (x : (f_set_Rank_c n).a.X × (f_set_Rank_c n).b.X) : run (f_set_Rank_e n) (bodyOf Tryz.f93) (entry Tryz.f93.ntmps ((f_set_Rank_c n).a.enc x.1) ((f_set_Rank_c n).b.enc x.2)) (kfin (f_set_Rank_e n) Tryz.f93 (f_set_Rank_c n) (f_set_Rank_c n).b.n) = (f_set_Rank_c n).f x := by kernel_rfl
theorem f_set_Rank_ok (X : Cx Tryz.prog K Gl) (n : Nat) : FOk Tryz.prog K Gl 93 (f_set_Rank_c n) := func_ok (E := f_set_Rank_e n) (fn := Tryz.f93) (cf := (f_set_Rank_c n)) (os := []) X (tok _ _ _ _) rfl (f_set_Rank_a X n) snil (by kernel_rfl) Tryz.func93 (by kernel_rfl) (f_set_Rank_k n)
def f_step_Far (side0 : Int) (q1 : Int) : Option (Int × Unit × Unit) :=
 Br (lt q1 0)
  (some ((-1), (), ()))
  (Br (le 81 q1)
   (some ((-1), (), ()))
   (Br (eq side0 0)
    (some ((f_set_Rank q1).1, (), ()))
    (Br (eq side0 1)
     (some (ws .i64 8 (f_set_Rank q1).1, (), ()))
     (some ((-1), (), ())))))
def f_step_Far_c (n : Nat) : Cf := ⟨.c (.t (.i .i64) []) (.t (.i .i64) []), .e, [⟨.t (.i .i64) [], .e, .e⟩], fun x => f_step_Far x.1.1 x.1.2⟩
def f_step_Far_e (n : Nat) : Env := en [(93, f_set_Rank_c n)] [] [] []
theorem f_step_Far_a (X : Cx Tryz.prog K Gl) (n : Nat) : FAll Tryz.prog K Gl [(93, f_set_Rank_c n)] := (fcons (f_set_Rank_ok X n) fnil)
theorem f_step_Far_k (n : Nat) (x : (f_step_Far_c n).a.X × (f_step_Far_c n).b.X) : run (f_step_Far_e n) (bodyOf Tryz.f159) (entry Tryz.f159.ntmps ((f_step_Far_c n).a.enc x.1) ((f_step_Far_c n).b.enc x.2)) (kfin (f_step_Far_e n) Tryz.f159 (f_step_Far_c n) (f_step_Far_c n).b.n) = (f_step_Far_c n).f x := by kernel_rfl
theorem f_step_Far_ok (X : Cx Tryz.prog K Gl) (n : Nat) : FOk Tryz.prog K Gl 159 (f_step_Far_c n) := func_ok (E := f_step_Far_e n) (fn := Tryz.f159) (cf := (f_step_Far_c n)) (os := []) X (tok _ _ _ _) rfl (f_step_Far_a X n) snil (by kernel_rfl) Tryz.func159 (by kernel_rfl) (f_step_Far_k n)
def f_step_Dead (p0 : Int) (q1 : Int) : Option (Bool × Unit × Unit) :=
 ob (f_piece_Side p0) fun y3 =>
 ob (f_step_Far y3.1 q1) fun y4 =>
 ob (f_piece_Kind p0) fun y6 =>
 Br (eq y6.1 1)
  (Br (eq y6.1 1)
   (some (eq y4.1 0, (), ()))
   (Br (eq y6.1 3)
    (Br (eq y4.1 0)
     (some (true, (), ()))
     (some (eq y4.1 1, (), ())))
    (some (false, (), ()))))
  (Br (eq y6.1 2)
   (some (eq y4.1 0, (), ()))
   (Br (eq y6.1 3)
    (Br (eq y4.1 0)
     (some (true, (), ()))
     (some (eq y4.1 1, (), ())))
    (some (false, (), ()))))
def f_step_Dead_c (n : Nat) : Cf := ⟨.c (.t (.i .i8) []) (.t (.i .i64) []), .e, [⟨.t (.b) [], .e, .e⟩], fun x => f_step_Dead x.1.1 x.1.2⟩
def f_step_Dead_e (n : Nat) : Env := en [(56, f_piece_Side_c n), (159, f_step_Far_c n), (90, f_piece_Kind_c n)] [] [] []
theorem f_step_Dead_a (X : Cx Tryz.prog K Gl) (n : Nat) : FAll Tryz.prog K Gl [(56, f_piece_Side_c n), (159, f_step_Far_c n), (90, f_piece_Kind_c n)] := (fcons (f_piece_Side_ok X n) (fcons (f_step_Far_ok X n) (fcons (f_piece_Kind_ok X n) fnil)))
theorem f_step_Dead_k (n : Nat) (x : (f_step_Dead_c n).a.X × (f_step_Dead_c n).b.X) : run (f_step_Dead_e n) (bodyOf Tryz.f139) (entry Tryz.f139.ntmps ((f_step_Dead_c n).a.enc x.1) ((f_step_Dead_c n).b.enc x.2)) (kfin (f_step_Dead_e n) Tryz.f139 (f_step_Dead_c n) (f_step_Dead_c n).b.n) = (f_step_Dead_c n).f x := by kernel_rfl
theorem f_step_Dead_ok (X : Cx Tryz.prog K Gl) (n : Nat) : FOk Tryz.prog K Gl 139 (f_step_Dead_c n) := func_ok (E := f_step_Dead_e n) (fn := Tryz.f139) (cf := (f_step_Dead_c n)) (os := []) X (tok _ _ _ _) rfl (f_step_Dead_a X n) snil (by kernel_rfl) Tryz.func139 (by kernel_rfl) (f_step_Dead_k n)
def f_set_bit (q0 : Int) : Option ((Int × Int × Unit) × Unit × Unit) :=
 Br (lt q0 0)
  (some ((0, 0, ()), (), ()))
  (Br (le 81 q0)
   (some ((0, 0, ()), (), ()))
   (Br (lt q0 63)
    (Br (lt q0 0)
     (none)
     (some ((sh .u64 1 q0, 0, ()), (), ())))
    (Br (lt (ws .i64 q0 63) 0)
     (none)
     (some ((0, sh .u64 1 (ws .i64 q0 63), ()), (), ())))))
def f_set_bit_c (n : Nat) : Cf := ⟨.t (.i .i64) [], .e, [⟨.t (.p (.i .u64) (.p (.i .u64) (.u))) [], .e, .e⟩], fun x => f_set_bit x.1⟩
def f_set_bit_e (n : Nat) : Env := en [] [] [] []
theorem f_set_bit_a (X : Cx Tryz.prog K Gl) (n : Nat) : FAll Tryz.prog K Gl [] := fnil
theorem f_set_bit_k (n : Nat) (x : (f_set_bit_c n).a.X × (f_set_bit_c n).b.X) : run (f_set_bit_e n) (bodyOf Tryz.f165) (entry Tryz.f165.ntmps ((f_set_bit_c n).a.enc x.1) ((f_set_bit_c n).b.enc x.2)) (kfin (f_set_bit_e n) Tryz.f165 (f_set_bit_c n) (f_set_bit_c n).b.n) = (f_set_bit_c n).f x := by kernel_rfl
theorem f_set_bit_ok (X : Cx Tryz.prog K Gl) (n : Nat) : FOk Tryz.prog K Gl 165 (f_set_bit_c n) := func_ok (E := f_set_bit_e n) (fn := Tryz.f165) (cf := (f_set_bit_c n)) (os := []) X (tok _ _ _ _) rfl (f_set_bit_a X n) snil (by kernel_rfl) Tryz.func165 (by kernel_rfl) (f_set_bit_k n)
def f_set_Set_Minus (s0 : Int × Int × Unit) (t1 : Int × Int × Unit) : (Int × Int × Unit) × Unit × Unit :=
 ((bno .u64 s0.1 t1.1, bno .u64 s0.2.1 t1.2.1, ()), (), ())
def f_set_Set_Minus_c (n : Nat) : Cf := ⟨.c (.t (.p (.i .u64) (.p (.i .u64) (.u))) []) (.t (.p (.i .u64) (.p (.i .u64) (.u))) []), .e, [⟨.t (.p (.i .u64) (.p (.i .u64) (.u))) [], .e, .e⟩], fun x => some (f_set_Set_Minus x.1.1 x.1.2)⟩
def f_set_Set_Minus_e (n : Nat) : Env := en [] [] [] []
theorem f_set_Set_Minus_a (X : Cx Tryz.prog K Gl) (n : Nat) : FAll Tryz.prog K Gl [] := fnil
theorem f_set_Set_Minus_k (n : Nat) (x : (f_set_Set_Minus_c n).a.X × (f_set_Set_Minus_c n).b.X) : run (f_set_Set_Minus_e n) (bodyOf Tryz.f164) (entry Tryz.f164.ntmps ((f_set_Set_Minus_c n).a.enc x.1) ((f_set_Set_Minus_c n).b.enc x.2)) (kfin (f_set_Set_Minus_e n) Tryz.f164 (f_set_Set_Minus_c n) (f_set_Set_Minus_c n).b.n) = (f_set_Set_Minus_c n).f x := by kernel_rfl
theorem f_set_Set_Minus_ok (X : Cx Tryz.prog K Gl) (n : Nat) : FOk Tryz.prog K Gl 164 (f_set_Set_Minus_c n) := func_ok (E := f_set_Set_Minus_e n) (fn := Tryz.f164) (cf := (f_set_Set_Minus_c n)) (os := []) X (tok _ _ _ _) rfl (f_set_Set_Minus_a X n) snil (by kernel_rfl) Tryz.func164 (by kernel_rfl) (f_set_Set_Minus_k n)
def f_set_Set_Without (s0 : Int × Int × Unit) (q1 : Int) : Option ((Int × Int × Unit) × Unit × Unit) :=
 ob (f_set_bit q1) fun y1 =>
 some ((f_set_Set_Minus s0 y1.1).1, (), ())
def f_set_Set_Without_c (n : Nat) : Cf := ⟨.c (.t (.p (.i .u64) (.p (.i .u64) (.u))) []) (.t (.i .i64) []), .e, [⟨.t (.p (.i .u64) (.p (.i .u64) (.u))) [], .e, .e⟩], fun x => f_set_Set_Without x.1.1 x.1.2⟩
def f_set_Set_Without_e (n : Nat) : Env := en [(165, f_set_bit_c n), (164, f_set_Set_Minus_c n)] [] [] []
theorem f_set_Set_Without_a (X : Cx Tryz.prog K Gl) (n : Nat) : FAll Tryz.prog K Gl [(165, f_set_bit_c n), (164, f_set_Set_Minus_c n)] := (fcons (f_set_bit_ok X n) (fcons (f_set_Set_Minus_ok X n) fnil))
theorem f_set_Set_Without_k (n : Nat) (x : (f_set_Set_Without_c n).a.X × (f_set_Set_Without_c n).b.X) : run (f_set_Set_Without_e n) (bodyOf Tryz.f147) (entry Tryz.f147.ntmps ((f_set_Set_Without_c n).a.enc x.1) ((f_set_Set_Without_c n).b.enc x.2)) (kfin (f_set_Set_Without_e n) Tryz.f147 (f_set_Set_Without_c n) (f_set_Set_Without_c n).b.n) = (f_set_Set_Without_c n).f x := by kernel_rfl
theorem f_set_Set_Without_ok (X : Cx Tryz.prog K Gl) (n : Nat) : FOk Tryz.prog K Gl 147 (f_set_Set_Without_c n) := func_ok (E := f_set_Set_Without_e n) (fn := Tryz.f147) (cf := (f_set_Set_Without_c n)) (os := []) X (tok _ _ _ _) rfl (f_set_Set_Without_a X n) snil (by kernel_rfl) Tryz.func147 (by kernel_rfl) (f_set_Set_Without_k n)
def f_set_Set_Or (s0 : Int × Int × Unit) (t1 : Int × Int × Unit) : (Int × Int × Unit) × Unit × Unit :=
 ((bor .u64 s0.1 t1.1, bor .u64 s0.2.1 t1.2.1, ()), (), ())
def f_set_Set_Or_c (n : Nat) : Cf := ⟨.c (.t (.p (.i .u64) (.p (.i .u64) (.u))) []) (.t (.p (.i .u64) (.p (.i .u64) (.u))) []), .e, [⟨.t (.p (.i .u64) (.p (.i .u64) (.u))) [], .e, .e⟩], fun x => some (f_set_Set_Or x.1.1 x.1.2)⟩
def f_set_Set_Or_e (n : Nat) : Env := en [] [] [] []
theorem f_set_Set_Or_a (X : Cx Tryz.prog K Gl) (n : Nat) : FAll Tryz.prog K Gl [] := fnil
theorem f_set_Set_Or_k (n : Nat) (x : (f_set_Set_Or_c n).a.X × (f_set_Set_Or_c n).b.X) : run (f_set_Set_Or_e n) (bodyOf Tryz.f161) (entry Tryz.f161.ntmps ((f_set_Set_Or_c n).a.enc x.1) ((f_set_Set_Or_c n).b.enc x.2)) (kfin (f_set_Set_Or_e n) Tryz.f161 (f_set_Set_Or_c n) (f_set_Set_Or_c n).b.n) = (f_set_Set_Or_c n).f x := by kernel_rfl
theorem f_set_Set_Or_ok (X : Cx Tryz.prog K Gl) (n : Nat) : FOk Tryz.prog K Gl 161 (f_set_Set_Or_c n) := func_ok (E := f_set_Set_Or_e n) (fn := Tryz.f161) (cf := (f_set_Set_Or_c n)) (os := []) X (tok _ _ _ _) rfl (f_set_Set_Or_a X n) snil (by kernel_rfl) Tryz.func161 (by kernel_rfl) (f_set_Set_Or_k n)
def f_set_Set_With (s0 : Int × Int × Unit) (q1 : Int) : Option ((Int × Int × Unit) × Unit × Unit) :=
 ob (f_set_bit q1) fun y1 =>
 some ((f_set_Set_Or s0 y1.1).1, (), ())
def f_set_Set_With_c (n : Nat) : Cf := ⟨.c (.t (.p (.i .u64) (.p (.i .u64) (.u))) []) (.t (.i .i64) []), .e, [⟨.t (.p (.i .u64) (.p (.i .u64) (.u))) [], .e, .e⟩], fun x => f_set_Set_With x.1.1 x.1.2⟩
def f_set_Set_With_e (n : Nat) : Env := en [(165, f_set_bit_c n), (161, f_set_Set_Or_c n)] [] [] []
theorem f_set_Set_With_a (X : Cx Tryz.prog K Gl) (n : Nat) : FAll Tryz.prog K Gl [(165, f_set_bit_c n), (161, f_set_Set_Or_c n)] := (fcons (f_set_bit_ok X n) (fcons (f_set_Set_Or_ok X n) fnil))
theorem f_set_Set_With_k (n : Nat) (x : (f_set_Set_With_c n).a.X × (f_set_Set_With_c n).b.X) : run (f_set_Set_With_e n) (bodyOf Tryz.f148) (entry Tryz.f148.ntmps ((f_set_Set_With_c n).a.enc x.1) ((f_set_Set_With_c n).b.enc x.2)) (kfin (f_set_Set_With_e n) Tryz.f148 (f_set_Set_With_c n) (f_set_Set_With_c n).b.n) = (f_set_Set_With_c n).f x := by kernel_rfl
theorem f_set_Set_With_ok (X : Cx Tryz.prog K Gl) (n : Nat) : FOk Tryz.prog K Gl 148 (f_set_Set_With_c n) := func_ok (E := f_set_Set_With_e n) (fn := Tryz.f148) (cf := (f_set_Set_With_c n)) (os := []) X (tok _ _ _ _) rfl (f_set_Set_With_a X n) snil (by kernel_rfl) Tryz.func148 (by kernel_rfl) (f_set_Set_With_k n)
end Go.AM.T
