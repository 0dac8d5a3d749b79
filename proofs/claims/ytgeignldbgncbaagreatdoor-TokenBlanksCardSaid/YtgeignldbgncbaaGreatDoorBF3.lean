/- What the functions compute, and that they do. -/
import Derived.Test.YtgeignldbgncbaaGreatDoorBF0
import Derived.Test.YtgeignldbgncbaaGreatDoorBF2
import Derived.Test.YtgeignldbgncbaaGreatDoorKL
set_option maxRecDepth 1000000
set_option linter.unusedVariables false
namespace Go.AM.T
open Go Go.AM Go.Proofs
def f_move_Parse_l0_s (n : Nat) (r : (Int × Int × Int × Bool × Unit) → List (Int) → (ByteArray × Nat) → Option ((Unit × Unit) × (Int × Int × Int × Bool × Unit) × List (Int))) (h3 : Int × Int × Int × Bool × Unit) (h4 : List (Int)) (h5 : ByteArray × Nat) : Option ((Unit × Unit) × (Int × Int × Int × Bool × Unit) × List (Int)) :=
 Br (lt (h5.2 : Int) (len h5.1))
  (Br (eq (h4.length : Int) 6)
   (some (((), ()), h3, h4))
   (Br (room ((h4.length : Int) + 1))
    (r h3 (h4.append [runeD h5.1 h5.2]) (h5.1, widD h5.1 h5.2))
    (none)))
  (some (((), ()), h3, h4))
def f_move_Parse_l0_i (n : Nat) : Nat → (Int × Int × Int × Bool × Unit) → List (Int) → (ByteArray × Nat) → Option ((Unit × Unit) × (Int × Int × Int × Bool × Unit) × List (Int))
 | 0, _, _, _ => none
 | m + 1, h3, h4, h5 => f_move_Parse_l0_s n (f_move_Parse_l0_i n m) h3 h4 h5
def f_move_Parse_l0 (n : Nat) := f_move_Parse_l0_i n n
def f_move_Parse_j21 (n : Nat) (h28 : Int × Int × Int × Bool × Unit) (h29 : Int × Int × Int × Bool × Unit) : Option ((Unit × Int) × Int × Int × Int × Bool × Unit) :=
 some (((), 0), h29)
def f_move_Parse (n : Nat) (s0 : ByteArray) : Option (((Int × Int × Int × Bool × Unit) × Int) × Unit × Unit) :=
 ob (f_move_Parse_l0 n (0, 0, 0, false, ()) [] (s0, 0)) fun y7 =>
 Br (!(eq (y7.2.2.length : Int) 4))
  (Br (!(eq (y7.2.2.length : Int) 5))
   (some (((0, 0, 0, false, ()), 70), (), ()))
   (Br (inr 1 (y7.2.2.length : Int))
    (Br (eq (y7.2.2.getD 1 0) 42)
     (Br (inr 0 (y7.2.2.length : Int))
      (ob (f_piece_Parse n (y7.2.2.getD 0 0) false) fun y31 =>
      Br (inr 2 (y7.2.2.length : Int))
       (Br (inr 3 (y7.2.2.length : Int))
        (ob (f_move_square (y7.2.2.getD 2 0) (y7.2.2.getD 3 0)) fun y33 =>
        ob (f_piece_Side y31.1) fun y35 =>
        Br (!(eq y35.1 0))
         (some (((0, 0, 0, false, ()), 70), (), ()))
         (Br (eq y31.1 8)
          (some (((0, 0, 0, false, ()), 70), (), ()))
          (Br (!y33.1.2)
           (some (((0, 0, 0, false, ()), 70), (), ()))
           (Br (!(eq (y7.2.2.length : Int) 4))
            (some (((0, 0, 0, false, ()), 70), (), ()))
            (ob (f_move_Parse_j21 n y7.2.1 (0, y33.1.1, wr .i64 y31.1, false, ())) fun y36 =>
            some ((y36.2, y36.1.2), (), ()))))))
        (none))
       (none))
      (none))
     (Br (inr 0 (y7.2.2.length : Int))
      (Br (inr 1 (y7.2.2.length : Int))
       (ob (f_move_square (y7.2.2.getD 0 0) (y7.2.2.getD 1 0)) fun y38 =>
       Br (inr 2 (y7.2.2.length : Int))
        (Br (inr 3 (y7.2.2.length : Int))
         (ob (f_move_square (y7.2.2.getD 2 0) (y7.2.2.getD 3 0)) fun y40 =>
         Br (!y38.1.2)
          (some (((0, 0, 0, false, ()), 70), (), ()))
          (Br (!y40.1.2)
           (some (((0, 0, 0, false, ()), 70), (), ()))
           (Br (eq y38.1.1 y40.1.1)
            (some (((0, 0, 0, false, ()), 70), (), ()))
            (Br (eq (y7.2.2.length : Int) 5)
             (Br (inr 4 (y7.2.2.length : Int))
              (Br (!(eq (y7.2.2.getD 4 0) 43))
               (some (((0, 0, 0, false, ()), 70), (), ()))
               (ob (f_move_Parse_j21 n y7.2.1 (y38.1.1, y40.1.1, 0, eq (y7.2.2.length : Int) 5, ())) fun y41 =>
               some ((y41.2, y41.1.2), (), ())))
              (none))
             (ob (f_move_Parse_j21 n y7.2.1 (y38.1.1, y40.1.1, 0, eq (y7.2.2.length : Int) 5, ())) fun y42 =>
             some ((y42.2, y42.1.2), (), ()))))))
         (none))
        (none))
       (none))
      (none)))
    (none)))
  (Br (inr 1 (y7.2.2.length : Int))
   (Br (eq (y7.2.2.getD 1 0) 42)
    (Br (inr 0 (y7.2.2.length : Int))
     (ob (f_piece_Parse n (y7.2.2.getD 0 0) false) fun y44 =>
     Br (inr 2 (y7.2.2.length : Int))
      (Br (inr 3 (y7.2.2.length : Int))
       (ob (f_move_square (y7.2.2.getD 2 0) (y7.2.2.getD 3 0)) fun y46 =>
       ob (f_piece_Side y44.1) fun y48 =>
       Br (!(eq y48.1 0))
        (some (((0, 0, 0, false, ()), 70), (), ()))
        (Br (eq y44.1 8)
         (some (((0, 0, 0, false, ()), 70), (), ()))
         (Br (!y46.1.2)
          (some (((0, 0, 0, false, ()), 70), (), ()))
          (Br (!(eq (y7.2.2.length : Int) 4))
           (some (((0, 0, 0, false, ()), 70), (), ()))
           (ob (f_move_Parse_j21 n y7.2.1 (0, y46.1.1, wr .i64 y44.1, false, ())) fun y49 =>
           some ((y49.2, y49.1.2), (), ()))))))
       (none))
      (none))
     (none))
    (Br (inr 0 (y7.2.2.length : Int))
     (Br (inr 1 (y7.2.2.length : Int))
      (ob (f_move_square (y7.2.2.getD 0 0) (y7.2.2.getD 1 0)) fun y51 =>
      Br (inr 2 (y7.2.2.length : Int))
       (Br (inr 3 (y7.2.2.length : Int))
        (ob (f_move_square (y7.2.2.getD 2 0) (y7.2.2.getD 3 0)) fun y53 =>
        Br (!y51.1.2)
         (some (((0, 0, 0, false, ()), 70), (), ()))
         (Br (!y53.1.2)
          (some (((0, 0, 0, false, ()), 70), (), ()))
          (Br (eq y51.1.1 y53.1.1)
           (some (((0, 0, 0, false, ()), 70), (), ()))
           (Br (eq (y7.2.2.length : Int) 5)
            (Br (inr 4 (y7.2.2.length : Int))
             (Br (!(eq (y7.2.2.getD 4 0) 43))
              (some (((0, 0, 0, false, ()), 70), (), ()))
              (ob (f_move_Parse_j21 n y7.2.1 (y51.1.1, y53.1.1, 0, eq (y7.2.2.length : Int) 5, ())) fun y54 =>
              some ((y54.2, y54.1.2), (), ())))
             (none))
            (ob (f_move_Parse_j21 n y7.2.1 (y51.1.1, y53.1.1, 0, eq (y7.2.2.length : Int) 5, ())) fun y55 =>
            some ((y55.2, y55.1.2), (), ()))))))
        (none))
       (none))
      (none))
     (none)))
   (none))
def f_move_Parse_c (n : Nat) : Cf := ⟨.t (.s) [], .e, [⟨.tu (.c (.t (.p (.i .i64) (.p (.i .i64) (.p (.i .i64) (.p (.b) (.u))))) []) (.t (.i .i64) [])), .e, .e⟩], fun x => f_move_Parse n x.1⟩
def f_move_Parse_l0_c (n : Nat) : Cs := ⟨0, [.row 4 21 (.i .i32)], ⟨[2, 4, 16], .c (.t (.r .p) [.p 0]) (.c (.t (.r .s) [.w 1]) (.it 2)), .c (.o (.p (.i .i64) (.p (.i .i64) (.p (.i .i64) (.p (.b) (.u))))) []) (.c (.w 21 (.i .i32) true) (.it))⟩, [⟨0, ⟨[2, 4], .c (.t (.r .p) [.p 0]) (.t (.r .s) [.w 1]), .c (.o (.p (.i .i64) (.p (.i .i64) (.p (.i .i64) (.p (.b) (.u))))) []) (.w 21 (.i .i32) true)⟩⟩], fun v => f_move_Parse_l0 n v.2.1 v.2.2.1 v.2.2.2⟩
def f_move_Parse_j21_c (n : Nat) : Cs := ⟨0, [], ⟨[2, 7], .c (.t (.r .p) [.p 0]) (.t (.r .p) [.p 1]), .c (.o (.p (.i .i64) (.p (.i .i64) (.p (.i .i64) (.p (.b) (.u))))) []) (.o (.p (.i .i64) (.p (.i .i64) (.p (.i .i64) (.p (.b) (.u))))) [])⟩, [⟨1, ⟨[2, 3], .c (.t (.r .p) [.p 0]) (.t (.i .i64) []), .o (.p (.i .i64) (.p (.i .i64) (.p (.i .i64) (.p (.b) (.u))))) []⟩⟩], fun v => f_move_Parse_j21 n v.2.1 v.2.2⟩
def f_move_Parse_e (n : Nat) : Env := en [(54, f_piece_Parse_c n), (55, f_move_square_c n), (56, f_piece_Side_c n)] [] [(21, f_move_Parse_j21_c n)] [(0, f_move_Parse_l0_c n)]
theorem f_move_Parse_a (X : Cx Tryz.prog K Gl) (n : Nat) : FAll Tryz.prog K Gl [(54, f_piece_Parse_c n), (55, f_move_square_c n), (56, f_piece_Side_c n)] := (fcons (f_piece_Parse_ok X n) (fcons (f_move_square_ok X n) (fcons (f_piece_Side_ok X n) fnil)))
theorem f_move_Parse_l0_k (n : Nat) (p : Nat) (v : (f_move_Parse_l0_c n).s.X) : run (f_move_Parse_e n) (lbody 0 (bodyOf Tryz.f37)) ((f_move_Parse_l0_c n).s.st Tryz.f37.ntmps v) (kloop 0 (f_move_Parse_l0_c n) (fun v => f_move_Parse_l0_i n p v.2.1 v.2.2.1 v.2.2.2)) = f_move_Parse_l0_i n (p + 1) v.2.1 v.2.2.1 v.2.2.2 := by kernel_rfl
theorem f_move_Parse_l0_o (X : Cx Tryz.prog K Gl) (n : Nat) : SO Tryz.prog K Gl Tryz.f37.ntmps 0 (.block 0 (.loop (lbody 0 (bodyOf Tryz.f37)))) (f_move_Parse_l0_c n) := loop_ok (E := f_move_Parse_e n) (os := []) (s := f_move_Parse_l0_c n) (n := n) X (tok _ _ _ _) rfl (f_move_Parse_a X n) snil (by kernel_rfl) rfl (fun p (v : (f_move_Parse_l0_c n).s.X) => f_move_Parse_l0_i n p v.2.1 v.2.2.1 v.2.2.2) (fun _ => rfl) (f_move_Parse_l0_k n) (fun _ => rfl)
theorem f_move_Parse_j21_k (n : Nat) (v : (f_move_Parse_j21_c n).s.X) : run (f_move_Parse_e n) (jbody 21 (bodyOf Tryz.f37)) ((f_move_Parse_j21_c n).s.st Tryz.f37.ntmps v) (decS 0 (f_move_Parse_j21_c n).x) = (f_move_Parse_j21_c n).f v := by kernel_rfl
theorem f_move_Parse_j21_o (X : Cx Tryz.prog K Gl) (n : Nat) : SO Tryz.prog K Gl Tryz.f37.ntmps 0 (jbody 21 (bodyOf Tryz.f37)) (f_move_Parse_j21_c n) := join_ok (E := f_move_Parse_e n) (os := []) X (tok _ _ _ _) rfl (f_move_Parse_a X n) snil (by kernel_rfl) rfl (f_move_Parse_j21_k n)
theorem f_move_Parse_k (n : Nat) (x : (f_move_Parse_c n).a.X × (f_move_Parse_c n).b.X) : run (f_move_Parse_e n) (bodyOf Tryz.f37) (entry Tryz.f37.ntmps ((f_move_Parse_c n).a.enc x.1) ((f_move_Parse_c n).b.enc x.2)) (kfin (f_move_Parse_e n) Tryz.f37 (f_move_Parse_c n) (f_move_Parse_c n).b.n) = (f_move_Parse_c n).f x := by kernel_rfl
theorem f_move_Parse_ok (X : Cx Tryz.prog K Gl) (n : Nat) : FOk Tryz.prog K Gl 37 (f_move_Parse_c n) := func_ok (E := f_move_Parse_e n) (fn := Tryz.f37) (cf := (f_move_Parse_c n)) (os := [(.block 0 (.loop (lbody 0 (bodyOf Tryz.f37))), f_move_Parse_l0_c n), (jbody 21 (bodyOf Tryz.f37), f_move_Parse_j21_c n)]) X (tok _ _ _ _) rfl (f_move_Parse_a X n) (scons (f_move_Parse_l0_o X n) (scons (f_move_Parse_j21_o X n) snil)) (by kernel_rfl) Tryz.func37 (by kernel_rfl) (f_move_Parse_k n)
def f_line_Parse_l0_s (n : Nat) (r : Int → Int → (List (Int × Int × Int × Bool × Unit)) → List (ByteArray) → Option (((Unit × Int × Int) × Unit) ⊕ (Unit × List (Int × Int × Int × Bool × Unit)))) (t9 : Int) (t10 : Int) (h11 : List (Int × Int × Int × Bool × Unit)) (h12 : List (ByteArray)) : Option (((Unit × Int × Int) × Unit) ⊕ (Unit × List (Int × Int × Int × Bool × Unit))) :=
 Br (lt t10 t9)
  (Br (inr t10 (h12.length : Int))
   (ob (f_move_Parse n (h12.getD t10.toNat (⟨#[]⟩ : ByteArray))) fun y16 =>
   Br (!(eq y16.1.2 0))
    (some (.inl (((), t10, y16.1.2), ())))
    (Br (room ((h11.length : Int) + 1))
     (r t9 (wa .i64 t10 1) (h11.append [y16.1.1]) h12)
     (none)))
   (none))
  (some (.inr ((), h11)))
def f_line_Parse_l0_i (n : Nat) : Nat → Int → Int → (List (Int × Int × Int × Bool × Unit)) → List (ByteArray) → Option (((Unit × Int × Int) × Unit) ⊕ (Unit × List (Int × Int × Int × Bool × Unit)))
 | 0, _, _, _, _ => none
 | m + 1, t9, t10, h11, h12 => f_line_Parse_l0_s n (f_line_Parse_l0_i n m) t9 t10 h11 h12
def f_line_Parse_l0 (n : Nat) := f_line_Parse_l0_i n n
def f_line_Parse (n : Nat) (s0 : ByteArray) : Option (((Unit × Int × Int) × Unit × Unit) ⊕ ((Unit × Int × Int) × Unit × (List (Int × Int × Int × Bool × Unit)))) :=
 Br (seq s0 (⟨#[]⟩ : ByteArray))
  (some (.inl (((), 0, 0), (), ())))
  (ob (l_split s0 (⟨#[32]⟩ : ByteArray)) fun y20 =>
  ob (f_line_Parse_l0 n (y20.2.2.length : Int) 0 [] y20.2.2) fun y21 =>
  sm y21 (fun y22 =>
   some (.inl ((y22.1.1, y22.1.2.1, y22.1.2.2), (), ())))
   (fun y23 =>
   some (.inr ((y23.1, (y23.2.length : Int), 0), (), y23.2))))
def f_line_Parse_c (n : Nat) : Cf := ⟨.t (.s) [], .e, [⟨.tu (.c (.t (.r .s) [.ns]) (.c (.t (.i .i64) []) (.t (.i .i64) []))), .e, .e⟩, ⟨.tu (.c (.t (.r .s) [.w 0]) (.c (.t (.i .i64) []) (.t (.i .i64) []))), .e, .w 82 (.p (.i .i64) (.p (.i .i64) (.p (.i .i64) (.p (.b) (.u))))) true⟩], fun x => f_line_Parse n x.1⟩
def f_line_Parse_l0_c (n : Nat) : Cs := ⟨0, [.row 5 82 (.p (.i .i64) (.p (.i .i64) (.p (.i .i64) (.p (.b) (.u)))))], ⟨[5, 13, 14, 15], .c (.t (.r .s) [.w 0]) (.c (.t (.r .s) [.w 1]) (.c (.t (.i .i64) []) (.t (.i .i64) []))), .c (.w 82 (.p (.i .i64) (.p (.i .i64) (.p (.i .i64) (.p (.b) (.u))))) true) (.w 9 (.s) true)⟩, [⟨1, ⟨[2, 3, 4], .c (.t (.r .s) [.ns]) (.c (.t (.i .i64) []) (.t (.i .i64) [])), .e⟩⟩, ⟨0, ⟨[5], .t (.r .s) [.w 0], .w 82 (.p (.i .i64) (.p (.i .i64) (.p (.i .i64) (.p (.b) (.u))))) true⟩⟩], fun v => f_line_Parse_l0 n v.1.2.2.1 v.1.2.2.2 v.2.1 v.2.2⟩
def f_line_Parse_e (n : Nat) : Env := en [(36, l_split_c n), (37, f_move_Parse_c n)] [] [] [(0, f_line_Parse_l0_c n)]
theorem f_line_Parse_a (X : Cx Tryz.prog K Gl) (n : Nat) : FAll Tryz.prog K Gl [(36, l_split_c n), (37, f_move_Parse_c n)] := (fcons (l_split_ok X n) (fcons (f_move_Parse_ok X n) fnil))
theorem f_line_Parse_l0_k (n : Nat) (p : Nat) (v : (f_line_Parse_l0_c n).s.X) : run (f_line_Parse_e n) (lbody 0 (bodyOf Tryz.f21)) ((f_line_Parse_l0_c n).s.st Tryz.f21.ntmps v) (kloop 0 (f_line_Parse_l0_c n) (fun v => f_line_Parse_l0_i n p v.1.2.2.1 v.1.2.2.2 v.2.1 v.2.2)) = f_line_Parse_l0_i n (p + 1) v.1.2.2.1 v.1.2.2.2 v.2.1 v.2.2 := by kernel_rfl
theorem f_line_Parse_l0_o (X : Cx Tryz.prog K Gl) (n : Nat) : SO Tryz.prog K Gl Tryz.f21.ntmps 0 (.block 0 (.loop (lbody 0 (bodyOf Tryz.f21)))) (f_line_Parse_l0_c n) := loop_ok (E := f_line_Parse_e n) (os := []) (s := f_line_Parse_l0_c n) (n := n) X (tok _ _ _ _) rfl (f_line_Parse_a X n) snil (by kernel_rfl) rfl (fun p (v : (f_line_Parse_l0_c n).s.X) => f_line_Parse_l0_i n p v.1.2.2.1 v.1.2.2.2 v.2.1 v.2.2) (fun _ => rfl) (f_line_Parse_l0_k n) (fun _ => rfl)
theorem f_line_Parse_k (n : Nat) (x : (f_line_Parse_c n).a.X × (f_line_Parse_c n).b.X) : run (f_line_Parse_e n) (bodyOf Tryz.f21) (entry Tryz.f21.ntmps ((f_line_Parse_c n).a.enc x.1) ((f_line_Parse_c n).b.enc x.2)) (kfin (f_line_Parse_e n) Tryz.f21 (f_line_Parse_c n) (f_line_Parse_c n).b.n) = (f_line_Parse_c n).f x := by kernel_rfl
theorem f_line_Parse_ok (X : Cx Tryz.prog K Gl) (n : Nat) : FOk Tryz.prog K Gl 21 (f_line_Parse_c n) := func_ok (E := f_line_Parse_e n) (fn := Tryz.f21) (cf := (f_line_Parse_c n)) (os := [(.block 0 (.loop (lbody 0 (bodyOf Tryz.f21))), f_line_Parse_l0_c n)]) X (tok _ _ _ _) rfl (f_line_Parse_a X n) (scons (f_line_Parse_l0_o X n) snil) (by kernel_rfl) Tryz.func21 (by kernel_rfl) (f_line_Parse_k n)
def f_token_position_j10 (n : Nat) (w15 : Nat × Nat) (h16 : List (ByteArray)) (h17 : List Int × Unit × Unit) : Option ((((List Int × Unit × Unit) × Int) × List (ByteArray)) ⊕ (((Unit × Int) × List (ByteArray)) ⊕ (((List Int × Unit × Unit) × Int) × List (ByteArray) × List (Int × Int × Int × Bool × Unit)))) :=
 Br (eq (w15.2 : Int) 0)
  (some (.inl ((h17, 0), h16)))
  (Br (inr 0 (w15.2 : Int))
   (Br (!(seq (h16.getD (w15.1 + 0) (⟨#[]⟩ : ByteArray)) (⟨#[109, 111, 118, 101, 115]⟩ : ByteArray)))
    (some (.inr (.inl (((), 70), h16))))
    (Br (inq 1 (w15.2 : Int))
     (ob (l_join (⟨#[32]⟩ : ByteArray) ((h16.drop (w15.1 + 1)).take (w15.2 - 1))) fun y22 =>
     ob (f_line_Parse n y22.1) fun y23 =>
     sm y23 (fun y24 =>
      Br (!(eq y24.1.2.2 0))
       (some (.inr (.inl (((), y24.1.2.2), h16))))
       (some (.inl (((h17.1, y24.1.1, h17.2.2), 0), h16))))
      (fun y25 =>
      Br (!(eq y25.1.2.2 0))
       (some (.inr (.inl (((), y25.1.2.2), h16))))
       (some (.inr (.inr (((h17.1, y25.1.1, h17.2.2), 0), h16, y25.2.2))))))
     (none)))
   (none))
def f_token_position (n : Nat) (b0 : List (ByteArray)) : Option ((((List Int × Unit × Unit) × Int) × List (ByteArray) × Unit) ⊕ (((Unit × Int) × List (ByteArray) × Unit) ⊕ (((List Int × Unit × Unit) × Int) × List (ByteArray) × (List (Int × Int × Int × Bool × Unit))))) :=
 ob (f_board_Start n) fun y6 =>
 Br (lt 0 (b0.length : Int))
  (Br (inr 0 (b0.length : Int))
   (Br (seq (b0.getD 0 (⟨#[]⟩ : ByteArray)) (⟨#[115, 116, 97, 114, 116, 112, 111, 115]⟩ : ByteArray))
    (Br (inq 1 (b0.length : Int))
     (ob (f_token_position_j10 n (1, b0.length - 1) b0 (y6.1, (), ())) fun y26 =>
     sm y26 (fun y27 =>
      some (.inl ((y27.1.1, y27.1.2), y27.2, ())))
      (fun y28 =>
      sm y28 (fun y29 =>
       some (.inr (.inl (((), y29.1.2), y29.2, ()))))
       (fun y30 =>
       some (.inr (.inr ((y30.1.1, y30.1.2), y30.2.1, y30.2.2))))))
     (none))
    (Br (le 5 (b0.length : Int))
     (Br (inr 0 (b0.length : Int))
      (Br (seq (b0.getD 0 (⟨#[]⟩ : ByteArray)) (⟨#[115, 102, 101, 110]⟩ : ByteArray))
       (Br ((inq 5 (b0.length : Int)) && true)
        (ob (l_join (⟨#[32]⟩ : ByteArray) ((b0.drop 1).take 4)) fun y33 =>
        ob (f_sfen_Parse n y33.1) fun y34 =>
        Br (!(eq y34.1.2.2 0))
         (some (.inr (.inl (((), y34.1.2.2), b0, ()))))
         (Br (inq 5 (b0.length : Int))
          (ob (f_token_position_j10 n (5, b0.length - 5) b0 (y34.1.1, (), ())) fun y35 =>
          sm y35 (fun y36 =>
           some (.inl ((y36.1.1, y36.1.2), y36.2, ())))
           (fun y37 =>
           sm y37 (fun y38 =>
            some (.inr (.inl (((), y38.1.2), y38.2, ()))))
            (fun y39 =>
            some (.inr (.inr ((y39.1.1, y39.1.2), y39.2.1, y39.2.2))))))
          (none)))
        (none))
       (some (.inr (.inl (((), 70), b0, ())))))
      (none))
     (some (.inr (.inl (((), 70), b0, ()))))))
   (none))
  (Br (le 5 (b0.length : Int))
   (Br (inr 0 (b0.length : Int))
    (Br (seq (b0.getD 0 (⟨#[]⟩ : ByteArray)) (⟨#[115, 102, 101, 110]⟩ : ByteArray))
     (Br ((inq 5 (b0.length : Int)) && true)
      (ob (l_join (⟨#[32]⟩ : ByteArray) ((b0.drop 1).take 4)) fun y42 =>
      ob (f_sfen_Parse n y42.1) fun y43 =>
      Br (!(eq y43.1.2.2 0))
       (some (.inr (.inl (((), y43.1.2.2), b0, ()))))
       (Br (inq 5 (b0.length : Int))
        (ob (f_token_position_j10 n (5, b0.length - 5) b0 (y43.1.1, (), ())) fun y44 =>
        sm y44 (fun y45 =>
         some (.inl ((y45.1.1, y45.1.2), y45.2, ())))
         (fun y46 =>
         sm y46 (fun y47 =>
          some (.inr (.inl (((), y47.1.2), y47.2, ()))))
          (fun y48 =>
          some (.inr (.inr ((y48.1.1, y48.1.2), y48.2.1, y48.2.2))))))
        (none)))
      (none))
     (some (.inr (.inl (((), 70), b0, ())))))
    (none))
   (some (.inr (.inl (((), 70), b0, ())))))
def f_token_position_c (n : Nat) : Cf := ⟨.t (.r .s) [.w 0], .w 9 (.s) false, [⟨.tu (.c (.fc 54 (.t (.p (.a .i8 98) (.p (.r .s) (.u))) [.ns])) (.t (.i .i64) [])), .w 9 (.s) false, .e⟩, ⟨.tu (.c (.nf) (.t (.i .i64) [])), .w 9 (.s) false, .e⟩, ⟨.tu (.c (.fc 54 (.t (.p (.a .i8 98) (.p (.r .s) (.u))) [.w 1])) (.t (.i .i64) [])), .w 9 (.s) false, .w 82 (.p (.i .i64) (.p (.i .i64) (.p (.i .i64) (.p (.b) (.u))))) true⟩], fun x => f_token_position n x.2⟩
def f_token_position_j10_c (n : Nat) : Cs := ⟨1, [], ⟨[0, 4], .c (.sv 0) (.t (.r .p) [.p 1]), .c (.w 9 (.s) false) (.o (.p (.a .i8 98) (.p (.r .s) (.u))) [.ns])⟩, [⟨1, ⟨[2, 3], .c (.fc 54 (.t (.p (.a .i8 98) (.p (.r .s) (.u))) [.ns])) (.t (.i .i64) []), .w 9 (.s) false⟩⟩, ⟨1, ⟨[2, 3], .c (.nf) (.t (.i .i64) []), .w 9 (.s) false⟩⟩, ⟨1, ⟨[2, 3], .c (.fc 54 (.t (.p (.a .i8 98) (.p (.r .s) (.u))) [.w 1])) (.t (.i .i64) []), .c (.w 9 (.s) false) (.w 82 (.p (.i .i64) (.p (.i .i64) (.p (.i .i64) (.p (.b) (.u))))) true)⟩⟩], fun v => f_token_position_j10 n v.1.1 v.2.1 v.2.2⟩
def f_token_position_e (n : Nat) : Env := en [(24, f_board_Start_c n), (39, l_join_c n), (45, f_sfen_Parse_c n), (21, f_line_Parse_c n)] [(9, [1])] [(10, f_token_position_j10_c n)] []
theorem f_token_position_a (X : Cx Tryz.prog K Gl) (n : Nat) : FAll Tryz.prog K Gl [(24, f_board_Start_c n), (39, l_join_c n), (45, f_sfen_Parse_c n), (21, f_line_Parse_c n)] := (fcons (f_board_Start_ok X n) (fcons (l_join_ok X n) (fcons (f_sfen_Parse_ok X n) (fcons (f_line_Parse_ok X n) fnil))))
theorem f_token_position_j10_k (n : Nat) (v : (f_token_position_j10_c n).s.X) : run (f_token_position_e n) (jbody 10 (bodyOf Tryz.f28)) ((f_token_position_j10_c n).s.st Tryz.f28.ntmps v) (decS 1 (f_token_position_j10_c n).x) = (f_token_position_j10_c n).f v := by kernel_rfl
theorem f_token_position_j10_o (X : Cx Tryz.prog K Gl) (n : Nat) : SO Tryz.prog K Gl Tryz.f28.ntmps 1 (jbody 10 (bodyOf Tryz.f28)) (f_token_position_j10_c n) := join_ok (E := f_token_position_e n) (os := []) X (tok _ _ _ _) rfl (f_token_position_a X n) snil (by kernel_rfl) rfl (f_token_position_j10_k n)
theorem f_token_position_k (n : Nat) (x : (f_token_position_c n).a.X × (f_token_position_c n).b.X) : run (f_token_position_e n) (bodyOf Tryz.f28) (entry Tryz.f28.ntmps ((f_token_position_c n).a.enc x.1) ((f_token_position_c n).b.enc x.2)) (kfin (f_token_position_e n) Tryz.f28 (f_token_position_c n) (f_token_position_c n).b.n) = (f_token_position_c n).f x := by kernel_rfl
theorem f_token_position_ok (X : Cx Tryz.prog K Gl) (n : Nat) : FOk Tryz.prog K Gl 28 (f_token_position_c n) := func_ok (E := f_token_position_e n) (fn := Tryz.f28) (cf := (f_token_position_c n)) (os := [(jbody 10 (bodyOf Tryz.f28), f_token_position_j10_c n)]) X (tok _ _ _ _) rfl (f_token_position_a X n) (scons (f_token_position_j10_o X n) snil) (by kernel_rfl) Tryz.func28 (by kernel_rfl) (f_token_position_k n)
def f_digit_Number_l0_s (n : Nat) (r : ByteArray → Int → (ByteArray × Nat) → Option ((Int × Unit) ⊕ ((ByteArray × Int) × Unit))) (s1 : ByteArray) (n2 : Int) (h3 : ByteArray × Nat) : Option ((Int × Unit) ⊕ ((ByteArray × Int) × Unit)) :=
 Br (lt (h3.2 : Int) (len h3.1))
  (Br (lt (runeD h3.1 h3.2) 48)
   (some (.inl ((-1), ())))
   (Br (lt 57 (runeD h3.1 h3.2))
    (some (.inl ((-1), ())))
    (Br (eq (h3.2 : Int) 4)
     (some (.inl ((-1), ())))
     (Br (eq (h3.2 : Int) 1)
      (Br (eq n2 0)
       (some (.inl ((-1), ())))
       (r s1 (wa .i64 (wm .i64 10 n2) (wr .i64 (ws .i32 (runeD h3.1 h3.2) 48))) (h3.1, widD h3.1 h3.2)))
      (r s1 (wa .i64 (wm .i64 10 n2) (wr .i64 (ws .i32 (runeD h3.1 h3.2) 48))) (h3.1, widD h3.1 h3.2))))))
  (some (.inr ((s1, n2), ())))
def f_digit_Number_l0_i (n : Nat) : Nat → ByteArray → Int → (ByteArray × Nat) → Option ((Int × Unit) ⊕ ((ByteArray × Int) × Unit))
 | 0, _, _, _ => none
 | m + 1, s1, n2, h3 => f_digit_Number_l0_s n (f_digit_Number_l0_i n m) s1 n2 h3
def f_digit_Number_l0 (n : Nat) := f_digit_Number_l0_i n n
def f_digit_Number (n : Nat) (s0 : ByteArray) : Option (Int × Unit × Unit) :=
 ob (f_digit_Number_l0 n s0 0 (s0, 0)) fun y7 =>
 sm y7 (fun y8 =>
  some (y8.1, (), ()))
  (fun y9 =>
  Br (seq y9.1.1 (⟨#[]⟩ : ByteArray))
   (some ((-1), (), ()))
   (some (y9.1.2, (), ())))
def f_digit_Number_c (n : Nat) : Cf := ⟨.t (.s) [], .e, [⟨.t (.i .i64) [], .e, .e⟩], fun x => f_digit_Number n x.1⟩
def f_digit_Number_l0_c (n : Nat) : Cs := ⟨0, [], ⟨[0, 3, 7], .c (.t (.s) []) (.c (.t (.i .i64) []) (.it 0)), .it⟩, [⟨1, ⟨[2], .t (.i .i64) [], .e⟩⟩, ⟨0, ⟨[0, 3], .c (.t (.s) []) (.t (.i .i64) []), .e⟩⟩], fun v => f_digit_Number_l0 n v.1.1 v.1.2.1 v.2⟩
def f_digit_Number_e (n : Nat) : Env := en [] [] [] [(0, f_digit_Number_l0_c n)]
theorem f_digit_Number_a (X : Cx Tryz.prog K Gl) (n : Nat) : FAll Tryz.prog K Gl [] := fnil
theorem f_digit_Number_l0_k (n : Nat) (p : Nat) (v : (f_digit_Number_l0_c n).s.X) : run (f_digit_Number_e n) (lbody 0 (bodyOf Tryz.f46)) ((f_digit_Number_l0_c n).s.st Tryz.f46.ntmps v) (kloop 0 (f_digit_Number_l0_c n) (fun v => f_digit_Number_l0_i n p v.1.1 v.1.2.1 v.2)) = f_digit_Number_l0_i n (p + 1) v.1.1 v.1.2.1 v.2 := by kernel_rfl
theorem f_digit_Number_l0_o (X : Cx Tryz.prog K Gl) (n : Nat) : SO Tryz.prog K Gl Tryz.f46.ntmps 0 (.block 0 (.loop (lbody 0 (bodyOf Tryz.f46)))) (f_digit_Number_l0_c n) := loop_ok (E := f_digit_Number_e n) (os := []) (s := f_digit_Number_l0_c n) (n := n) X (tok _ _ _ _) rfl (f_digit_Number_a X n) snil (by kernel_rfl) rfl (fun p (v : (f_digit_Number_l0_c n).s.X) => f_digit_Number_l0_i n p v.1.1 v.1.2.1 v.2) (fun _ => rfl) (f_digit_Number_l0_k n) (fun _ => rfl)
theorem f_digit_Number_k (n : Nat) (x : (f_digit_Number_c n).a.X × (f_digit_Number_c n).b.X) : run (f_digit_Number_e n) (bodyOf Tryz.f46) (entry Tryz.f46.ntmps ((f_digit_Number_c n).a.enc x.1) ((f_digit_Number_c n).b.enc x.2)) (kfin (f_digit_Number_e n) Tryz.f46 (f_digit_Number_c n) (f_digit_Number_c n).b.n) = (f_digit_Number_c n).f x := by kernel_rfl
theorem f_digit_Number_ok (X : Cx Tryz.prog K Gl) (n : Nat) : FOk Tryz.prog K Gl 46 (f_digit_Number_c n) := func_ok (E := f_digit_Number_e n) (fn := Tryz.f46) (cf := (f_digit_Number_c n)) (os := [(.block 0 (.loop (lbody 0 (bodyOf Tryz.f46))), f_digit_Number_l0_c n)]) X (tok _ _ _ _) rfl (f_digit_Number_a X n) (scons (f_digit_Number_l0_o X n) snil) (by kernel_rfl) Tryz.func46 (by kernel_rfl) (f_digit_Number_k n)
def f_token_search_j7 (n : Nat) (h7 : List (ByteArray)) : Option ((Unit × Int) × List (ByteArray)) :=
 some (((), 70), h7)
def f_token_search_l1_s (n : Nat) (r : (Nat × Nat) → List (ByteArray) → (Int × Int × Unit) → Option (((Unit × Int) × List (ByteArray)) ⊕ (Unit × List (ByteArray) × Int × Int × Unit))) (w27 : Nat × Nat) (h28 : List (ByteArray)) (h29 : Int × Int × Unit) : Option (((Unit × Int) × List (ByteArray)) ⊕ (Unit × List (ByteArray) × Int × Int × Unit)) :=
 Br (lt 0 (w27.2 : Int))
  (Br (lt (w27.2 : Int) 2)
   (some (.inl (((), 70), h28)))
   (Br (inr 1 (w27.2 : Int))
    (ob (f_digit_Number n (h28.getD (w27.1 + 1) (⟨#[]⟩ : ByteArray))) fun y31 =>
    Br (lt y31.1 1)
     (some (.inl (((), 70), h28)))
     (Br (inr 1 (w27.2 : Int))
      (ob (f_digit_Number n (h28.getD (w27.1 + 1) (⟨#[]⟩ : ByteArray))) fun y33 =>
      Br (inr 0 (w27.2 : Int))
       (Br (seq (h28.getD (w27.1 + 0) (⟨#[]⟩ : ByteArray)) (⟨#[100, 101, 112, 116, 104]⟩ : ByteArray))
        (Br (eq h29.1 0)
         (Br (inq 2 (w27.2 : Int))
          (r (w27.1 + 2, w27.2 - 2) h28 (y33.1, h29.2))
          (none))
         (Br (inr 0 (w27.2 : Int))
          (Br (seq (h28.getD (w27.1 + 0) (⟨#[]⟩ : ByteArray)) (⟨#[110, 111, 100, 101, 115]⟩ : ByteArray))
           (Br (eq h29.2.1 0)
            (Br (inq 2 (w27.2 : Int))
             (r (w27.1 + 2, w27.2 - 2) h28 (h29.1, y33.1, h29.2.2))
             (none))
            (some (.inl (((), 70), h28))))
           (some (.inl (((), 70), h28))))
          (none)))
        (Br (inr 0 (w27.2 : Int))
         (Br (seq (h28.getD (w27.1 + 0) (⟨#[]⟩ : ByteArray)) (⟨#[110, 111, 100, 101, 115]⟩ : ByteArray))
          (Br (eq h29.2.1 0)
           (Br (inq 2 (w27.2 : Int))
            (r (w27.1 + 2, w27.2 - 2) h28 (h29.1, y33.1, h29.2.2))
            (none))
           (some (.inl (((), 70), h28))))
          (some (.inl (((), 70), h28))))
         (none)))
       (none))
      (none)))
    (none)))
  (some (.inr ((), h28, h29)))
def f_token_search_l1_i (n : Nat) : Nat → (Nat × Nat) → List (ByteArray) → (Int × Int × Unit) → Option (((Unit × Int) × List (ByteArray)) ⊕ (Unit × List (ByteArray) × Int × Int × Unit))
 | 0, _, _, _ => none
 | m + 1, w27, h28, h29 => f_token_search_l1_s n (f_token_search_l1_i n m) w27 h28 h29
def f_token_search_l1 (n : Nat) := f_token_search_l1_i n n
def f_token_search_j8 (n : Nat) (h20 : List (ByteArray)) : Option (((Unit × Int) × List (ByteArray)) ⊕ (((Int × Int × Unit) × Int) × List (ByteArray))) :=
 ob (f_token_search_l1 n (0, h20.length) h20 (0, 0, ())) fun y37 =>
 sm y37 (fun y38 =>
  some (.inl (((), y38.1.2), y38.2)))
  (fun y39 =>
  some (.inr ((y39.2.2, 0), y39.2.1)))
def f_token_search (n : Nat) (b0 : List (ByteArray)) : Option ((((Int × Unit) × Int) × List (ByteArray) × Unit) ⊕ (((Unit × Int) × List (ByteArray) × Unit) ⊕ (((Int × Int × Unit) × Int) × List (ByteArray) × Unit))) :=
 Br (lt 0 (b0.length : Int))
  (Br (inr 0 (b0.length : Int))
   (Br (seq (b0.getD 0 (⟨#[]⟩ : ByteArray)) (⟨#[109, 97, 116, 101]⟩ : ByteArray))
    (Br (eq (b0.length : Int) 1)
     (Br (eq (b0.length : Int) 1)
      (some (.inl (((0, ()), 0), b0, ())))
      (Br (eq (b0.length : Int) 2)
       (Br (inr 1 (b0.length : Int))
        (ob (f_digit_Number n (b0.getD 1 (⟨#[]⟩ : ByteArray))) fun y40 =>
        Br (lt 0 y40.1)
         (Br (inr 1 (b0.length : Int))
          (ob (f_digit_Number n (b0.getD 1 (⟨#[]⟩ : ByteArray))) fun y41 =>
          some (.inl (((y41.1, ()), 0), b0, ())))
          (none))
         (ob (f_token_search_j7 n b0) fun y42 =>
         some (.inr (.inl (((), y42.1.2), y42.2, ())))))
        (none))
       (ob (f_token_search_j7 n b0) fun y43 =>
       some (.inr (.inl (((), y43.1.2), y43.2, ()))))))
     (Br (eq (b0.length : Int) 2)
      (Br (inr 1 (b0.length : Int))
       (Br (seq (b0.getD 1 (⟨#[]⟩ : ByteArray)) (⟨#[105, 110, 102, 105, 110, 105, 116, 101]⟩ : ByteArray))
        (some (.inl (((0, ()), 0), b0, ())))
        (Br (eq (b0.length : Int) 2)
         (Br (inr 1 (b0.length : Int))
          (ob (f_digit_Number n (b0.getD 1 (⟨#[]⟩ : ByteArray))) fun y44 =>
          Br (lt 0 y44.1)
           (Br (inr 1 (b0.length : Int))
            (ob (f_digit_Number n (b0.getD 1 (⟨#[]⟩ : ByteArray))) fun y45 =>
            some (.inl (((y45.1, ()), 0), b0, ())))
            (none))
           (ob (f_token_search_j7 n b0) fun y46 =>
           some (.inr (.inl (((), y46.1.2), y46.2, ())))))
          (none))
         (ob (f_token_search_j7 n b0) fun y47 =>
         some (.inr (.inl (((), y47.1.2), y47.2, ()))))))
       (none))
      (Br (eq (b0.length : Int) 2)
       (Br (inr 1 (b0.length : Int))
        (ob (f_digit_Number n (b0.getD 1 (⟨#[]⟩ : ByteArray))) fun y48 =>
        Br (lt 0 y48.1)
         (Br (inr 1 (b0.length : Int))
          (ob (f_digit_Number n (b0.getD 1 (⟨#[]⟩ : ByteArray))) fun y49 =>
          some (.inl (((y49.1, ()), 0), b0, ())))
          (none))
         (ob (f_token_search_j7 n b0) fun y50 =>
         some (.inr (.inl (((), y50.1.2), y50.2, ())))))
        (none))
       (ob (f_token_search_j7 n b0) fun y51 =>
       some (.inr (.inl (((), y51.1.2), y51.2, ())))))))
    (ob (f_token_search_j8 n b0) fun y52 =>
    sm y52 (fun y53 =>
     some (.inr (.inl (((), y53.1.2), y53.2, ()))))
     (fun y54 =>
     some (.inr (.inr ((y54.1.1, y54.1.2), y54.2, ()))))))
   (none))
  (ob (f_token_search_j8 n b0) fun y55 =>
  sm y55 (fun y56 =>
   some (.inr (.inl (((), y56.1.2), y56.2, ()))))
   (fun y57 =>
   some (.inr (.inr ((y57.1.1, y57.1.2), y57.2, ())))))
def f_token_search_c (n : Nat) : Cf := ⟨.t (.r .s) [.w 0], .w 9 (.s) false, [⟨.tu (.c (.fc 58 (.t (.p (.i .i64) (.u)) [])) (.t (.i .i64) [])), .w 9 (.s) false, .e⟩, ⟨.tu (.c (.nf) (.t (.i .i64) [])), .w 9 (.s) false, .e⟩, ⟨.tu (.c (.fc 32 (.t (.p (.i .i64) (.p (.i .i64) (.u))) [])) (.t (.i .i64) [])), .w 9 (.s) false, .e⟩], fun x => f_token_search n x.2⟩
def f_token_search_j7_c (n : Nat) : Cs := ⟨1, [], ⟨[], .e, .w 9 (.s) false⟩, [⟨1, ⟨[2, 3], .c (.nf) (.t (.i .i64) []), .w 9 (.s) false⟩⟩], fun v => f_token_search_j7 n v.2⟩
def f_token_search_l1_c (n : Nat) : Cs := ⟨1, [.view 0], ⟨[0, 4], .c (.sv 0) (.t (.r .p) [.p 1]), .c (.w 9 (.s) false) (.o (.p (.i .i64) (.p (.i .i64) (.u))) [])⟩, [⟨1, ⟨[2, 3], .c (.nf) (.t (.i .i64) []), .w 9 (.s) false⟩⟩, ⟨0, ⟨[4], .t (.r .p) [.p 1], .c (.w 9 (.s) false) (.o (.p (.i .i64) (.p (.i .i64) (.u))) [])⟩⟩], fun v => f_token_search_l1 n v.1.1 v.2.1 v.2.2⟩
def f_token_search_j8_c (n : Nat) : Cs := ⟨1, [], ⟨[0], .t (.r .s) [.w 0], .w 9 (.s) false⟩, [⟨1, ⟨[2, 3], .c (.nf) (.t (.i .i64) []), .w 9 (.s) false⟩⟩, ⟨1, ⟨[2, 3], .c (.fc 32 (.t (.p (.i .i64) (.p (.i .i64) (.u))) [])) (.t (.i .i64) []), .w 9 (.s) false⟩⟩], fun v => f_token_search_j8 n v.2⟩
def f_token_search_e (n : Nat) : Env := en [(46, f_digit_Number_c n)] [] [(7, f_token_search_j7_c n), (8, f_token_search_j8_c n)] [(1, f_token_search_l1_c n)]
theorem f_token_search_a (X : Cx Tryz.prog K Gl) (n : Nat) : FAll Tryz.prog K Gl [(46, f_digit_Number_c n)] := (fcons (f_digit_Number_ok X n) fnil)
theorem f_token_search_j7_k (n : Nat) (v : (f_token_search_j7_c n).s.X) : run (f_token_search_e n) (jbody 7 (bodyOf Tryz.f29)) ((f_token_search_j7_c n).s.st Tryz.f29.ntmps v) (decS 1 (f_token_search_j7_c n).x) = (f_token_search_j7_c n).f v := by kernel_rfl
theorem f_token_search_j7_o (X : Cx Tryz.prog K Gl) (n : Nat) : SO Tryz.prog K Gl Tryz.f29.ntmps 1 (jbody 7 (bodyOf Tryz.f29)) (f_token_search_j7_c n) := join_ok (E := f_token_search_e n) (os := []) X (tok _ _ _ _) rfl (f_token_search_a X n) snil (by kernel_rfl) rfl (f_token_search_j7_k n)
theorem f_token_search_l1_k (n : Nat) (p : Nat) (v : (f_token_search_l1_c n).s.X) : run (f_token_search_e n) (lbody 1 (bodyOf Tryz.f29)) ((f_token_search_l1_c n).s.st Tryz.f29.ntmps v) (kloop 1 (f_token_search_l1_c n) (fun v => f_token_search_l1_i n p v.1.1 v.2.1 v.2.2)) = f_token_search_l1_i n (p + 1) v.1.1 v.2.1 v.2.2 := by kernel_rfl
theorem f_token_search_l1_o (X : Cx Tryz.prog K Gl) (n : Nat) : SO Tryz.prog K Gl Tryz.f29.ntmps 1 (.block 1 (.loop (lbody 1 (bodyOf Tryz.f29)))) (f_token_search_l1_c n) := loop_ok (E := f_token_search_e n) (os := []) (s := f_token_search_l1_c n) (n := n) X (tok _ _ _ _) rfl (f_token_search_a X n) snil (by kernel_rfl) rfl (fun p (v : (f_token_search_l1_c n).s.X) => f_token_search_l1_i n p v.1.1 v.2.1 v.2.2) (fun _ => rfl) (f_token_search_l1_k n) (fun _ => rfl)
theorem f_token_search_j8_k (n : Nat) (v : (f_token_search_j8_c n).s.X) : run (f_token_search_e n) (jbody 8 (bodyOf Tryz.f29)) ((f_token_search_j8_c n).s.st Tryz.f29.ntmps v) (decS 1 (f_token_search_j8_c n).x) = (f_token_search_j8_c n).f v := by kernel_rfl
theorem f_token_search_j8_o (X : Cx Tryz.prog K Gl) (n : Nat) : SO Tryz.prog K Gl Tryz.f29.ntmps 1 (jbody 8 (bodyOf Tryz.f29)) (f_token_search_j8_c n) := join_ok (E := f_token_search_e n) (os := [(.block 1 (.loop (lbody 1 (bodyOf Tryz.f29))), f_token_search_l1_c n)]) X (tok _ _ _ _) rfl (f_token_search_a X n) (scons (f_token_search_l1_o X n) snil) (by kernel_rfl) rfl (f_token_search_j8_k n)
theorem f_token_search_k (n : Nat) (x : (f_token_search_c n).a.X × (f_token_search_c n).b.X) : run (f_token_search_e n) (bodyOf Tryz.f29) (entry Tryz.f29.ntmps ((f_token_search_c n).a.enc x.1) ((f_token_search_c n).b.enc x.2)) (kfin (f_token_search_e n) Tryz.f29 (f_token_search_c n) (f_token_search_c n).b.n) = (f_token_search_c n).f x := by kernel_rfl
theorem f_token_search_ok (X : Cx Tryz.prog K Gl) (n : Nat) : FOk Tryz.prog K Gl 29 (f_token_search_c n) := func_ok (E := f_token_search_e n) (fn := Tryz.f29) (cf := (f_token_search_c n)) (os := [(jbody 7 (bodyOf Tryz.f29), f_token_search_j7_c n), (jbody 8 (bodyOf Tryz.f29), f_token_search_j8_c n)]) X (tok _ _ _ _) rfl (f_token_search_a X n) (scons (f_token_search_j7_o X n) (scons (f_token_search_j8_o X n) snil)) (by kernel_rfl) Tryz.func29 (by kernel_rfl) (f_token_search_k n)
def f_token_Parse_j21 (n : Nat) (u_ : Unit) : Option ((Unit × Int) × Unit) :=
 some (((), 220), ())
def f_token_Parse (n : Nat) (s0 : ByteArray) : Option (((Unit × Int) × Unit × Unit) ⊕ ((((ByteArray × Unit) × Int) × Unit × Unit) ⊕ ((((ByteArray × ByteArray × Unit) × Int) × Unit × Unit) ⊕ ((((List Int × Unit × Unit) × Int) × Unit × Unit) ⊕ ((((List Int × Unit × Unit) × Int) × Unit × (List (Int × Int × Int × Bool × Unit))) ⊕ ((((Int × Unit) × Int) × Unit × Unit) ⊕ (((Int × Int × Unit) × Int) × Unit × Unit))))))) :=
 Br (lt 32768 (len s0))
  (some (.inl (((), 2), (), ())))
  (ob (f_token_words s0) fun y2 =>
  Br (eq (y2.2.2.length : Int) 0)
   (some (.inl (((), 0), (), ())))
   (Br (inr 0 (y2.2.2.length : Int))
    (Br (seq (y2.2.2.getD 0 (⟨#[]⟩ : ByteArray)) (⟨#[117, 115, 105]⟩ : ByteArray))
     (Br (seq (y2.2.2.getD 0 (⟨#[]⟩ : ByteArray)) (⟨#[117, 115, 105]⟩ : ByteArray))
      (Br (lt 1 (y2.2.2.length : Int))
       (some (.inl (((), 70), (), ())))
       (Br (inr 0 (y2.2.2.length : Int))
        (some (.inr (.inl (((y2.2.2.getD 0 (⟨#[]⟩ : ByteArray), ()), 0), (), ()))))
        (none)))
      (Br (seq (y2.2.2.getD 0 (⟨#[]⟩ : ByteArray)) (⟨#[115, 101, 116, 111, 112, 116, 105, 111, 110]⟩ : ByteArray))
       (Br (inq 1 (y2.2.2.length : Int))
        (ob (f_token_option n ((y2.2.2.drop 1).take (y2.2.2.length - 1))) fun y68 =>
        sm y68 (fun y69 =>
         some (.inr (.inr (.inl ((y69.1.1, y69.1.2), (), ())))))
         (fun y70 =>
         some (.inl (((), y70.1.2), (), ()))))
        (none))
       (Br (seq (y2.2.2.getD 0 (⟨#[]⟩ : ByteArray)) (⟨#[112, 111, 115, 105, 116, 105, 111, 110]⟩ : ByteArray))
        (Br (inq 1 (y2.2.2.length : Int))
         (ob (f_token_position n ((y2.2.2.drop 1).take (y2.2.2.length - 1))) fun y71 =>
         sm y71 (fun y72 =>
          some (.inr (.inr (.inr (.inl ((y72.1.1, y72.1.2), (), ()))))))
          (fun y73 =>
          sm y73 (fun y74 =>
           some (.inl (((), y74.1.2), (), ())))
           (fun y75 =>
           some (.inr (.inr (.inr (.inr (.inl ((y75.1.1, y75.1.2), (), y75.2.2)))))))))
         (none))
        (Br (seq (y2.2.2.getD 0 (⟨#[]⟩ : ByteArray)) (⟨#[103, 111]⟩ : ByteArray))
         (Br (inq 1 (y2.2.2.length : Int))
          (ob (f_token_search n ((y2.2.2.drop 1).take (y2.2.2.length - 1))) fun y76 =>
          sm y76 (fun y77 =>
           some (.inr (.inr (.inr (.inr (.inr (.inl ((y77.1.1, y77.1.2), (), ()))))))))
           (fun y78 =>
           sm y78 (fun y79 =>
            some (.inl (((), y79.1.2), (), ())))
            (fun y80 =>
            some (.inr (.inr (.inr (.inr (.inr (.inr ((y80.1.1, y80.1.2), (), ()))))))))))
          (none))
         (ob (f_token_Parse_j21 n ()) fun y81 =>
         some (.inl (((), y81.1.2), (), ())))))))
     (Br (seq (y2.2.2.getD 0 (⟨#[]⟩ : ByteArray)) (⟨#[105, 115, 114, 101, 97, 100, 121]⟩ : ByteArray))
      (Br (seq (y2.2.2.getD 0 (⟨#[]⟩ : ByteArray)) (⟨#[105, 115, 114, 101, 97, 100, 121]⟩ : ByteArray))
       (Br (lt 1 (y2.2.2.length : Int))
        (some (.inl (((), 70), (), ())))
        (Br (inr 0 (y2.2.2.length : Int))
         (some (.inr (.inl (((y2.2.2.getD 0 (⟨#[]⟩ : ByteArray), ()), 0), (), ()))))
         (none)))
       (Br (seq (y2.2.2.getD 0 (⟨#[]⟩ : ByteArray)) (⟨#[115, 101, 116, 111, 112, 116, 105, 111, 110]⟩ : ByteArray))
        (Br (inq 1 (y2.2.2.length : Int))
         (ob (f_token_option n ((y2.2.2.drop 1).take (y2.2.2.length - 1))) fun y82 =>
         sm y82 (fun y83 =>
          some (.inr (.inr (.inl ((y83.1.1, y83.1.2), (), ())))))
          (fun y84 =>
          some (.inl (((), y84.1.2), (), ()))))
         (none))
        (Br (seq (y2.2.2.getD 0 (⟨#[]⟩ : ByteArray)) (⟨#[112, 111, 115, 105, 116, 105, 111, 110]⟩ : ByteArray))
         (Br (inq 1 (y2.2.2.length : Int))
          (ob (f_token_position n ((y2.2.2.drop 1).take (y2.2.2.length - 1))) fun y85 =>
          sm y85 (fun y86 =>
           some (.inr (.inr (.inr (.inl ((y86.1.1, y86.1.2), (), ()))))))
           (fun y87 =>
           sm y87 (fun y88 =>
            some (.inl (((), y88.1.2), (), ())))
            (fun y89 =>
            some (.inr (.inr (.inr (.inr (.inl ((y89.1.1, y89.1.2), (), y89.2.2)))))))))
          (none))
         (Br (seq (y2.2.2.getD 0 (⟨#[]⟩ : ByteArray)) (⟨#[103, 111]⟩ : ByteArray))
          (Br (inq 1 (y2.2.2.length : Int))
           (ob (f_token_search n ((y2.2.2.drop 1).take (y2.2.2.length - 1))) fun y90 =>
           sm y90 (fun y91 =>
            some (.inr (.inr (.inr (.inr (.inr (.inl ((y91.1.1, y91.1.2), (), ()))))))))
            (fun y92 =>
            sm y92 (fun y93 =>
             some (.inl (((), y93.1.2), (), ())))
             (fun y94 =>
             some (.inr (.inr (.inr (.inr (.inr (.inr ((y94.1.1, y94.1.2), (), ()))))))))))
           (none))
          (ob (f_token_Parse_j21 n ()) fun y95 =>
          some (.inl (((), y95.1.2), (), ())))))))
      (Br (seq (y2.2.2.getD 0 (⟨#[]⟩ : ByteArray)) (⟨#[117, 115, 105, 110, 101, 119, 103, 97, 109, 101]⟩ : ByteArray))
       (Br (seq (y2.2.2.getD 0 (⟨#[]⟩ : ByteArray)) (⟨#[117, 115, 105, 110, 101, 119, 103, 97, 109, 101]⟩ : ByteArray))
        (Br (lt 1 (y2.2.2.length : Int))
         (some (.inl (((), 70), (), ())))
         (Br (inr 0 (y2.2.2.length : Int))
          (some (.inr (.inl (((y2.2.2.getD 0 (⟨#[]⟩ : ByteArray), ()), 0), (), ()))))
          (none)))
        (Br (seq (y2.2.2.getD 0 (⟨#[]⟩ : ByteArray)) (⟨#[115, 101, 116, 111, 112, 116, 105, 111, 110]⟩ : ByteArray))
         (Br (inq 1 (y2.2.2.length : Int))
          (ob (f_token_option n ((y2.2.2.drop 1).take (y2.2.2.length - 1))) fun y96 =>
          sm y96 (fun y97 =>
           some (.inr (.inr (.inl ((y97.1.1, y97.1.2), (), ())))))
           (fun y98 =>
           some (.inl (((), y98.1.2), (), ()))))
          (none))
         (Br (seq (y2.2.2.getD 0 (⟨#[]⟩ : ByteArray)) (⟨#[112, 111, 115, 105, 116, 105, 111, 110]⟩ : ByteArray))
          (Br (inq 1 (y2.2.2.length : Int))
           (ob (f_token_position n ((y2.2.2.drop 1).take (y2.2.2.length - 1))) fun y99 =>
           sm y99 (fun y100 =>
            some (.inr (.inr (.inr (.inl ((y100.1.1, y100.1.2), (), ()))))))
            (fun y101 =>
            sm y101 (fun y102 =>
             some (.inl (((), y102.1.2), (), ())))
             (fun y103 =>
             some (.inr (.inr (.inr (.inr (.inl ((y103.1.1, y103.1.2), (), y103.2.2)))))))))
           (none))
          (Br (seq (y2.2.2.getD 0 (⟨#[]⟩ : ByteArray)) (⟨#[103, 111]⟩ : ByteArray))
           (Br (inq 1 (y2.2.2.length : Int))
            (ob (f_token_search n ((y2.2.2.drop 1).take (y2.2.2.length - 1))) fun y104 =>
            sm y104 (fun y105 =>
             some (.inr (.inr (.inr (.inr (.inr (.inl ((y105.1.1, y105.1.2), (), ()))))))))
             (fun y106 =>
             sm y106 (fun y107 =>
              some (.inl (((), y107.1.2), (), ())))
              (fun y108 =>
              some (.inr (.inr (.inr (.inr (.inr (.inr ((y108.1.1, y108.1.2), (), ()))))))))))
            (none))
           (ob (f_token_Parse_j21 n ()) fun y109 =>
           some (.inl (((), y109.1.2), (), ())))))))
       (Br (seq (y2.2.2.getD 0 (⟨#[]⟩ : ByteArray)) (⟨#[115, 116, 111, 112]⟩ : ByteArray))
        (Br (seq (y2.2.2.getD 0 (⟨#[]⟩ : ByteArray)) (⟨#[115, 116, 111, 112]⟩ : ByteArray))
         (Br (lt 1 (y2.2.2.length : Int))
          (some (.inl (((), 70), (), ())))
          (Br (inr 0 (y2.2.2.length : Int))
           (some (.inr (.inl (((y2.2.2.getD 0 (⟨#[]⟩ : ByteArray), ()), 0), (), ()))))
           (none)))
         (Br (seq (y2.2.2.getD 0 (⟨#[]⟩ : ByteArray)) (⟨#[115, 101, 116, 111, 112, 116, 105, 111, 110]⟩ : ByteArray))
          (Br (inq 1 (y2.2.2.length : Int))
           (ob (f_token_option n ((y2.2.2.drop 1).take (y2.2.2.length - 1))) fun y110 =>
           sm y110 (fun y111 =>
            some (.inr (.inr (.inl ((y111.1.1, y111.1.2), (), ())))))
            (fun y112 =>
            some (.inl (((), y112.1.2), (), ()))))
           (none))
          (Br (seq (y2.2.2.getD 0 (⟨#[]⟩ : ByteArray)) (⟨#[112, 111, 115, 105, 116, 105, 111, 110]⟩ : ByteArray))
           (Br (inq 1 (y2.2.2.length : Int))
            (ob (f_token_position n ((y2.2.2.drop 1).take (y2.2.2.length - 1))) fun y113 =>
            sm y113 (fun y114 =>
             some (.inr (.inr (.inr (.inl ((y114.1.1, y114.1.2), (), ()))))))
             (fun y115 =>
             sm y115 (fun y116 =>
              some (.inl (((), y116.1.2), (), ())))
              (fun y117 =>
              some (.inr (.inr (.inr (.inr (.inl ((y117.1.1, y117.1.2), (), y117.2.2)))))))))
            (none))
           (Br (seq (y2.2.2.getD 0 (⟨#[]⟩ : ByteArray)) (⟨#[103, 111]⟩ : ByteArray))
            (Br (inq 1 (y2.2.2.length : Int))
             (ob (f_token_search n ((y2.2.2.drop 1).take (y2.2.2.length - 1))) fun y118 =>
             sm y118 (fun y119 =>
              some (.inr (.inr (.inr (.inr (.inr (.inl ((y119.1.1, y119.1.2), (), ()))))))))
              (fun y120 =>
              sm y120 (fun y121 =>
               some (.inl (((), y121.1.2), (), ())))
               (fun y122 =>
               some (.inr (.inr (.inr (.inr (.inr (.inr ((y122.1.1, y122.1.2), (), ()))))))))))
             (none))
            (ob (f_token_Parse_j21 n ()) fun y123 =>
            some (.inl (((), y123.1.2), (), ())))))))
        (Br (seq (y2.2.2.getD 0 (⟨#[]⟩ : ByteArray)) (⟨#[113, 117, 105, 116]⟩ : ByteArray))
         (Br (lt 1 (y2.2.2.length : Int))
          (some (.inl (((), 70), (), ())))
          (Br (inr 0 (y2.2.2.length : Int))
           (some (.inr (.inl (((y2.2.2.getD 0 (⟨#[]⟩ : ByteArray), ()), 0), (), ()))))
           (none)))
         (Br (seq (y2.2.2.getD 0 (⟨#[]⟩ : ByteArray)) (⟨#[115, 101, 116, 111, 112, 116, 105, 111, 110]⟩ : ByteArray))
          (Br (inq 1 (y2.2.2.length : Int))
           (ob (f_token_option n ((y2.2.2.drop 1).take (y2.2.2.length - 1))) fun y124 =>
           sm y124 (fun y125 =>
            some (.inr (.inr (.inl ((y125.1.1, y125.1.2), (), ())))))
            (fun y126 =>
            some (.inl (((), y126.1.2), (), ()))))
           (none))
          (Br (seq (y2.2.2.getD 0 (⟨#[]⟩ : ByteArray)) (⟨#[112, 111, 115, 105, 116, 105, 111, 110]⟩ : ByteArray))
           (Br (inq 1 (y2.2.2.length : Int))
            (ob (f_token_position n ((y2.2.2.drop 1).take (y2.2.2.length - 1))) fun y127 =>
            sm y127 (fun y128 =>
             some (.inr (.inr (.inr (.inl ((y128.1.1, y128.1.2), (), ()))))))
             (fun y129 =>
             sm y129 (fun y130 =>
              some (.inl (((), y130.1.2), (), ())))
              (fun y131 =>
              some (.inr (.inr (.inr (.inr (.inl ((y131.1.1, y131.1.2), (), y131.2.2)))))))))
            (none))
           (Br (seq (y2.2.2.getD 0 (⟨#[]⟩ : ByteArray)) (⟨#[103, 111]⟩ : ByteArray))
            (Br (inq 1 (y2.2.2.length : Int))
             (ob (f_token_search n ((y2.2.2.drop 1).take (y2.2.2.length - 1))) fun y132 =>
             sm y132 (fun y133 =>
              some (.inr (.inr (.inr (.inr (.inr (.inl ((y133.1.1, y133.1.2), (), ()))))))))
              (fun y134 =>
              sm y134 (fun y135 =>
               some (.inl (((), y135.1.2), (), ())))
               (fun y136 =>
               some (.inr (.inr (.inr (.inr (.inr (.inr ((y136.1.1, y136.1.2), (), ()))))))))))
             (none))
            (ob (f_token_Parse_j21 n ()) fun y137 =>
            some (.inl (((), y137.1.2), (), ())))))))))))
    (none)))
def f_token_Parse_c (n : Nat) : Cf := ⟨.t (.s) [], .e, [⟨.tu (.c (.nf) (.t (.i .i64) [])), .e, .e⟩, ⟨.tu (.c (.fc 74 (.t (.p (.s) (.u)) [])) (.t (.i .i64) [])), .e, .e⟩, ⟨.tu (.c (.fc 62 (.t (.p (.s) (.p (.s) (.u))) [])) (.t (.i .i64) [])), .e, .e⟩, ⟨.tu (.c (.fc 54 (.t (.p (.a .i8 98) (.p (.r .s) (.u))) [.ns])) (.t (.i .i64) [])), .e, .e⟩, ⟨.tu (.c (.fc 54 (.t (.p (.a .i8 98) (.p (.r .s) (.u))) [.w 0])) (.t (.i .i64) [])), .e, .w 82 (.p (.i .i64) (.p (.i .i64) (.p (.i .i64) (.p (.b) (.u))))) true⟩, ⟨.tu (.c (.fc 58 (.t (.p (.i .i64) (.u)) [])) (.t (.i .i64) [])), .e, .e⟩, ⟨.tu (.c (.fc 32 (.t (.p (.i .i64) (.p (.i .i64) (.u))) [])) (.t (.i .i64) [])), .e, .e⟩], fun x => f_token_Parse n x.1⟩
def f_token_Parse_j21_c (n : Nat) : Cs := ⟨0, [], ⟨[], .e, .e⟩, [⟨1, ⟨[2, 3], .c (.nf) (.t (.i .i64) []), .e⟩⟩], fun v => f_token_Parse_j21 n ()⟩
def f_token_Parse_e (n : Nat) : Env := en [(26, f_token_words_c n), (27, f_token_option_c n), (28, f_token_position_c n), (29, f_token_search_c n)] [] [(21, f_token_Parse_j21_c n)] []
theorem f_token_Parse_a (X : Cx Tryz.prog K Gl) (n : Nat) : FAll Tryz.prog K Gl [(26, f_token_words_c n), (27, f_token_option_c n), (28, f_token_position_c n), (29, f_token_search_c n)] := (fcons (f_token_words_ok X n) (fcons (f_token_option_ok X n) (fcons (f_token_position_ok X n) (fcons (f_token_search_ok X n) fnil))))
theorem f_token_Parse_j21_k (n : Nat) (v : (f_token_Parse_j21_c n).s.X) : run (f_token_Parse_e n) (jbody 21 (bodyOf Tryz.f11)) ((f_token_Parse_j21_c n).s.st Tryz.f11.ntmps v) (decS 0 (f_token_Parse_j21_c n).x) = (f_token_Parse_j21_c n).f v := by kernel_rfl
theorem f_token_Parse_j21_o (X : Cx Tryz.prog K Gl) (n : Nat) : SO Tryz.prog K Gl Tryz.f11.ntmps 0 (jbody 21 (bodyOf Tryz.f11)) (f_token_Parse_j21_c n) := join_ok (E := f_token_Parse_e n) (os := []) X (tok _ _ _ _) rfl (f_token_Parse_a X n) snil (by kernel_rfl) rfl (f_token_Parse_j21_k n)
theorem f_token_Parse_k (n : Nat) (x : (f_token_Parse_c n).a.X × (f_token_Parse_c n).b.X) : run (f_token_Parse_e n) (bodyOf Tryz.f11) (entry Tryz.f11.ntmps ((f_token_Parse_c n).a.enc x.1) ((f_token_Parse_c n).b.enc x.2)) (kfin (f_token_Parse_e n) Tryz.f11 (f_token_Parse_c n) (f_token_Parse_c n).b.n) = (f_token_Parse_c n).f x := by kernel_rfl
theorem f_token_Parse_ok (X : Cx Tryz.prog K Gl) (n : Nat) : FOk Tryz.prog K Gl 11 (f_token_Parse_c n) := func_ok (E := f_token_Parse_e n) (fn := Tryz.f11) (cf := (f_token_Parse_c n)) (os := [(jbody 21 (bodyOf Tryz.f11), f_token_Parse_j21_c n)]) X (tok _ _ _ _) rfl (f_token_Parse_a X n) (scons (f_token_Parse_j21_o X n) snil) (by kernel_rfl) Tryz.func11 (by kernel_rfl) (f_token_Parse_k n)
def f_token_IsPosition  : ((List Int × Unit × Unit) × Bool) × Unit × Unit :=
 (((List.replicate 98 0, (), ()), false), (), ())
def f_token_IsPosition_c (n : Nat) : Cf := ⟨.nf, .e, [⟨.tu (.c (.t (.p (.a .i8 98) (.p (.r .s) (.u))) [.ns]) (.t (.b) [])), .e, .e⟩], fun x => some (f_token_IsPosition)⟩
def f_token_IsPosition_e (n : Nat) : Env := en [] [] [] []
theorem f_token_IsPosition_a (X : Cx Tryz.prog K Gl) (n : Nat) : FAll Tryz.prog K Gl [] := fnil
theorem f_token_IsPosition_k (n : Nat) (x : (f_token_IsPosition_c n).a.X × (f_token_IsPosition_c n).b.X) : run (f_token_IsPosition_e n) (bodyOf Tryz.f17) (entry Tryz.f17.ntmps ((f_token_IsPosition_c n).a.enc x.1) ((f_token_IsPosition_c n).b.enc x.2)) (kfin (f_token_IsPosition_e n) Tryz.f17 (f_token_IsPosition_c n) (f_token_IsPosition_c n).b.n) = (f_token_IsPosition_c n).f x := by kernel_rfl
theorem f_token_IsPosition_ok (X : Cx Tryz.prog K Gl) (n : Nat) : FOk Tryz.prog K Gl 17 (f_token_IsPosition_c n) := func_ok (E := f_token_IsPosition_e n) (fn := Tryz.f17) (cf := (f_token_IsPosition_c n)) (os := []) X (tok _ _ _ _) rfl (f_token_IsPosition_a X n) snil (by kernel_rfl) Tryz.func17 (by kernel_rfl) (f_token_IsPosition_k n)
def f_token_IsGo  : ((Int × Int × Unit) × Bool) × Unit × Unit :=
 (((0, 0, ()), false), (), ())
def f_token_IsGo_c (n : Nat) : Cf := ⟨.nf, .e, [⟨.tu (.c (.t (.p (.i .i64) (.p (.i .i64) (.u))) []) (.t (.b) [])), .e, .e⟩], fun x => some (f_token_IsGo)⟩
def f_token_IsGo_e (n : Nat) : Env := en [] [] [] []
theorem f_token_IsGo_a (X : Cx Tryz.prog K Gl) (n : Nat) : FAll Tryz.prog K Gl [] := fnil
theorem f_token_IsGo_k (n : Nat) (x : (f_token_IsGo_c n).a.X × (f_token_IsGo_c n).b.X) : run (f_token_IsGo_e n) (bodyOf Tryz.f12) (entry Tryz.f12.ntmps ((f_token_IsGo_c n).a.enc x.1) ((f_token_IsGo_c n).b.enc x.2)) (kfin (f_token_IsGo_e n) Tryz.f12 (f_token_IsGo_c n) (f_token_IsGo_c n).b.n) = (f_token_IsGo_c n).f x := by kernel_rfl
theorem f_token_IsGo_ok (X : Cx Tryz.prog K Gl) (n : Nat) : FOk Tryz.prog K Gl 12 (f_token_IsGo_c n) := func_ok (E := f_token_IsGo_e n) (fn := Tryz.f12) (cf := (f_token_IsGo_c n)) (os := []) X (tok _ _ _ _) rfl (f_token_IsGo_a X n) snil (by kernel_rfl) Tryz.func12 (by kernel_rfl) (f_token_IsGo_k n)
def f_token_IsGo_1 (c0 : ByteArray × Unit) : ((Int × Int × Unit) × Bool) × Unit × Unit :=
 (((0, 0, ()), false), (), ())
def f_token_IsGo_1_c (n : Nat) : Cf := ⟨.fc 74 (.t (.p (.s) (.u)) []), .e, [⟨.tu (.c (.t (.p (.i .i64) (.p (.i .i64) (.u))) []) (.t (.b) [])), .e, .e⟩], fun x => some (f_token_IsGo_1 x.1)⟩
def f_token_IsGo_1_e (n : Nat) : Env := en [] [] [] []
theorem f_token_IsGo_1_a (X : Cx Tryz.prog K Gl) (n : Nat) : FAll Tryz.prog K Gl [] := fnil
theorem f_token_IsGo_1_k (n : Nat) (x : (f_token_IsGo_1_c n).a.X × (f_token_IsGo_1_c n).b.X) : run (f_token_IsGo_1_e n) (bodyOf Tryz.f12) (entry Tryz.f12.ntmps ((f_token_IsGo_1_c n).a.enc x.1) ((f_token_IsGo_1_c n).b.enc x.2)) (kfin (f_token_IsGo_1_e n) Tryz.f12 (f_token_IsGo_1_c n) (f_token_IsGo_1_c n).b.n) = (f_token_IsGo_1_c n).f x := by kernel_rfl
theorem f_token_IsGo_1_ok (X : Cx Tryz.prog K Gl) (n : Nat) : FOk Tryz.prog K Gl 12 (f_token_IsGo_1_c n) := func_ok (E := f_token_IsGo_1_e n) (fn := Tryz.f12) (cf := (f_token_IsGo_1_c n)) (os := []) X (tok _ _ _ _) rfl (f_token_IsGo_1_a X n) snil (by kernel_rfl) Tryz.func12 (by kernel_rfl) (f_token_IsGo_1_k n)
def f_token_IsGo_2 (c0 : ByteArray × ByteArray × Unit) : ((Int × Int × Unit) × Bool) × Unit × Unit :=
 (((0, 0, ()), false), (), ())
def f_token_IsGo_2_c (n : Nat) : Cf := ⟨.fc 62 (.t (.p (.s) (.p (.s) (.u))) []), .e, [⟨.tu (.c (.t (.p (.i .i64) (.p (.i .i64) (.u))) []) (.t (.b) [])), .e, .e⟩], fun x => some (f_token_IsGo_2 x.1)⟩
def f_token_IsGo_2_e (n : Nat) : Env := en [] [] [] []
theorem f_token_IsGo_2_a (X : Cx Tryz.prog K Gl) (n : Nat) : FAll Tryz.prog K Gl [] := fnil
theorem f_token_IsGo_2_k (n : Nat) (x : (f_token_IsGo_2_c n).a.X × (f_token_IsGo_2_c n).b.X) : run (f_token_IsGo_2_e n) (bodyOf Tryz.f12) (entry Tryz.f12.ntmps ((f_token_IsGo_2_c n).a.enc x.1) ((f_token_IsGo_2_c n).b.enc x.2)) (kfin (f_token_IsGo_2_e n) Tryz.f12 (f_token_IsGo_2_c n) (f_token_IsGo_2_c n).b.n) = (f_token_IsGo_2_c n).f x := by kernel_rfl
theorem f_token_IsGo_2_ok (X : Cx Tryz.prog K Gl) (n : Nat) : FOk Tryz.prog K Gl 12 (f_token_IsGo_2_c n) := func_ok (E := f_token_IsGo_2_e n) (fn := Tryz.f12) (cf := (f_token_IsGo_2_c n)) (os := []) X (tok _ _ _ _) rfl (f_token_IsGo_2_a X n) snil (by kernel_rfl) Tryz.func12 (by kernel_rfl) (f_token_IsGo_2_k n)
def f_token_IsGo_3 (c0 : List Int × Unit × Unit) : ((Int × Int × Unit) × Bool) × Unit × Unit :=
 (((0, 0, ()), false), (), ())
def f_token_IsGo_3_c (n : Nat) : Cf := ⟨.fc 54 (.t (.p (.a .i8 98) (.p (.r .s) (.u))) [.ns]), .e, [⟨.tu (.c (.t (.p (.i .i64) (.p (.i .i64) (.u))) []) (.t (.b) [])), .e, .e⟩], fun x => some (f_token_IsGo_3 x.1)⟩
def f_token_IsGo_3_e (n : Nat) : Env := en [] [] [] []
theorem f_token_IsGo_3_a (X : Cx Tryz.prog K Gl) (n : Nat) : FAll Tryz.prog K Gl [] := fnil
theorem f_token_IsGo_3_k (n : Nat) (x : (f_token_IsGo_3_c n).a.X × (f_token_IsGo_3_c n).b.X) : run (f_token_IsGo_3_e n) (bodyOf Tryz.f12) (entry Tryz.f12.ntmps ((f_token_IsGo_3_c n).a.enc x.1) ((f_token_IsGo_3_c n).b.enc x.2)) (kfin (f_token_IsGo_3_e n) Tryz.f12 (f_token_IsGo_3_c n) (f_token_IsGo_3_c n).b.n) = (f_token_IsGo_3_c n).f x := by kernel_rfl
theorem f_token_IsGo_3_ok (X : Cx Tryz.prog K Gl) (n : Nat) : FOk Tryz.prog K Gl 12 (f_token_IsGo_3_c n) := func_ok (E := f_token_IsGo_3_e n) (fn := Tryz.f12) (cf := (f_token_IsGo_3_c n)) (os := []) X (tok _ _ _ _) rfl (f_token_IsGo_3_a X n) snil (by kernel_rfl) Tryz.func12 (by kernel_rfl) (f_token_IsGo_3_k n)
def f_token_IsGo_4 (c0 : List Int × Unit × Unit) (b0 : List (Int × Int × Int × Bool × Unit)) : ((Int × Int × Unit) × Bool) × (List (Int × Int × Int × Bool × Unit)) × Unit :=
 (((0, 0, ()), false), b0, ())
def f_token_IsGo_4_c (n : Nat) : Cf := ⟨.fc 54 (.t (.p (.a .i8 98) (.p (.r .s) (.u))) [.w 0]), .w 82 (.p (.i .i64) (.p (.i .i64) (.p (.i .i64) (.p (.b) (.u))))) true, [⟨.tu (.c (.t (.p (.i .i64) (.p (.i .i64) (.u))) []) (.t (.b) [])), .w 82 (.p (.i .i64) (.p (.i .i64) (.p (.i .i64) (.p (.b) (.u))))) true, .e⟩], fun x => some (f_token_IsGo_4 x.1 x.2)⟩
def f_token_IsGo_4_e (n : Nat) : Env := en [] [] [] []
theorem f_token_IsGo_4_a (X : Cx Tryz.prog K Gl) (n : Nat) : FAll Tryz.prog K Gl [] := fnil
theorem f_token_IsGo_4_k (n : Nat) (x : (f_token_IsGo_4_c n).a.X × (f_token_IsGo_4_c n).b.X) : run (f_token_IsGo_4_e n) (bodyOf Tryz.f12) (entry Tryz.f12.ntmps ((f_token_IsGo_4_c n).a.enc x.1) ((f_token_IsGo_4_c n).b.enc x.2)) (kfin (f_token_IsGo_4_e n) Tryz.f12 (f_token_IsGo_4_c n) (f_token_IsGo_4_c n).b.n) = (f_token_IsGo_4_c n).f x := by kernel_rfl
theorem f_token_IsGo_4_ok (X : Cx Tryz.prog K Gl) (n : Nat) : FOk Tryz.prog K Gl 12 (f_token_IsGo_4_c n) := func_ok (E := f_token_IsGo_4_e n) (fn := Tryz.f12) (cf := (f_token_IsGo_4_c n)) (os := []) X (tok _ _ _ _) rfl (f_token_IsGo_4_a X n) snil (by kernel_rfl) Tryz.func12 (by kernel_rfl) (f_token_IsGo_4_k n)
def f_token_IsGo_5 (c0 : Int × Unit) : ((Int × Int × Unit) × Bool) × Unit × Unit :=
 (((0, 0, ()), false), (), ())
def f_token_IsGo_5_c (n : Nat) : Cf := ⟨.fc 58 (.t (.p (.i .i64) (.u)) []), .e, [⟨.tu (.c (.t (.p (.i .i64) (.p (.i .i64) (.u))) []) (.t (.b) [])), .e, .e⟩], fun x => some (f_token_IsGo_5 x.1)⟩
def f_token_IsGo_5_e (n : Nat) : Env := en [] [] [] []
theorem f_token_IsGo_5_a (X : Cx Tryz.prog K Gl) (n : Nat) : FAll Tryz.prog K Gl [] := fnil
theorem f_token_IsGo_5_k (n : Nat) (x : (f_token_IsGo_5_c n).a.X × (f_token_IsGo_5_c n).b.X) : run (f_token_IsGo_5_e n) (bodyOf Tryz.f12) (entry Tryz.f12.ntmps ((f_token_IsGo_5_c n).a.enc x.1) ((f_token_IsGo_5_c n).b.enc x.2)) (kfin (f_token_IsGo_5_e n) Tryz.f12 (f_token_IsGo_5_c n) (f_token_IsGo_5_c n).b.n) = (f_token_IsGo_5_c n).f x := by kernel_rfl
theorem f_token_IsGo_5_ok (X : Cx Tryz.prog K Gl) (n : Nat) : FOk Tryz.prog K Gl 12 (f_token_IsGo_5_c n) := func_ok (E := f_token_IsGo_5_e n) (fn := Tryz.f12) (cf := (f_token_IsGo_5_c n)) (os := []) X (tok _ _ _ _) rfl (f_token_IsGo_5_a X n) snil (by kernel_rfl) Tryz.func12 (by kernel_rfl) (f_token_IsGo_5_k n)
def f_token_IsGo_6 (c0 : Int × Int × Unit) : ((Int × Int × Unit) × Bool) × Unit × Unit :=
 ((c0, true), (), ())
def f_token_IsGo_6_c (n : Nat) : Cf := ⟨.fc 32 (.t (.p (.i .i64) (.p (.i .i64) (.u))) []), .e, [⟨.tu (.c (.t (.p (.i .i64) (.p (.i .i64) (.u))) []) (.t (.b) [])), .e, .e⟩], fun x => some (f_token_IsGo_6 x.1)⟩
def f_token_IsGo_6_e (n : Nat) : Env := en [] [] [] []
theorem f_token_IsGo_6_a (X : Cx Tryz.prog K Gl) (n : Nat) : FAll Tryz.prog K Gl [] := fnil
theorem f_token_IsGo_6_k (n : Nat) (x : (f_token_IsGo_6_c n).a.X × (f_token_IsGo_6_c n).b.X) : run (f_token_IsGo_6_e n) (bodyOf Tryz.f12) (entry Tryz.f12.ntmps ((f_token_IsGo_6_c n).a.enc x.1) ((f_token_IsGo_6_c n).b.enc x.2)) (kfin (f_token_IsGo_6_e n) Tryz.f12 (f_token_IsGo_6_c n) (f_token_IsGo_6_c n).b.n) = (f_token_IsGo_6_c n).f x := by kernel_rfl
theorem f_token_IsGo_6_ok (X : Cx Tryz.prog K Gl) (n : Nat) : FOk Tryz.prog K Gl 12 (f_token_IsGo_6_c n) := func_ok (E := f_token_IsGo_6_e n) (fn := Tryz.f12) (cf := (f_token_IsGo_6_c n)) (os := []) X (tok _ _ _ _) rfl (f_token_IsGo_6_a X n) snil (by kernel_rfl) Tryz.func12 (by kernel_rfl) (f_token_IsGo_6_k n)
def f_token_IsPosition_1 (c0 : ByteArray × Unit) : ((List Int × Unit × Unit) × Bool) × Unit × Unit :=
 (((List.replicate 98 0, (), ()), false), (), ())
def f_token_IsPosition_1_c (n : Nat) : Cf := ⟨.fc 74 (.t (.p (.s) (.u)) []), .e, [⟨.tu (.c (.t (.p (.a .i8 98) (.p (.r .s) (.u))) [.ns]) (.t (.b) [])), .e, .e⟩], fun x => some (f_token_IsPosition_1 x.1)⟩
def f_token_IsPosition_1_e (n : Nat) : Env := en [] [] [] []
theorem f_token_IsPosition_1_a (X : Cx Tryz.prog K Gl) (n : Nat) : FAll Tryz.prog K Gl [] := fnil
theorem f_token_IsPosition_1_k (n : Nat) (x : (f_token_IsPosition_1_c n).a.X × (f_token_IsPosition_1_c n).b.X) : run (f_token_IsPosition_1_e n) (bodyOf Tryz.f17) (entry Tryz.f17.ntmps ((f_token_IsPosition_1_c n).a.enc x.1) ((f_token_IsPosition_1_c n).b.enc x.2)) (kfin (f_token_IsPosition_1_e n) Tryz.f17 (f_token_IsPosition_1_c n) (f_token_IsPosition_1_c n).b.n) = (f_token_IsPosition_1_c n).f x := by kernel_rfl
theorem f_token_IsPosition_1_ok (X : Cx Tryz.prog K Gl) (n : Nat) : FOk Tryz.prog K Gl 17 (f_token_IsPosition_1_c n) := func_ok (E := f_token_IsPosition_1_e n) (fn := Tryz.f17) (cf := (f_token_IsPosition_1_c n)) (os := []) X (tok _ _ _ _) rfl (f_token_IsPosition_1_a X n) snil (by kernel_rfl) Tryz.func17 (by kernel_rfl) (f_token_IsPosition_1_k n)
def f_token_IsPosition_2 (c0 : ByteArray × ByteArray × Unit) : ((List Int × Unit × Unit) × Bool) × Unit × Unit :=
 (((List.replicate 98 0, (), ()), false), (), ())
def f_token_IsPosition_2_c (n : Nat) : Cf := ⟨.fc 62 (.t (.p (.s) (.p (.s) (.u))) []), .e, [⟨.tu (.c (.t (.p (.a .i8 98) (.p (.r .s) (.u))) [.ns]) (.t (.b) [])), .e, .e⟩], fun x => some (f_token_IsPosition_2 x.1)⟩
def f_token_IsPosition_2_e (n : Nat) : Env := en [] [] [] []
theorem f_token_IsPosition_2_a (X : Cx Tryz.prog K Gl) (n : Nat) : FAll Tryz.prog K Gl [] := fnil
theorem f_token_IsPosition_2_k (n : Nat) (x : (f_token_IsPosition_2_c n).a.X × (f_token_IsPosition_2_c n).b.X) : run (f_token_IsPosition_2_e n) (bodyOf Tryz.f17) (entry Tryz.f17.ntmps ((f_token_IsPosition_2_c n).a.enc x.1) ((f_token_IsPosition_2_c n).b.enc x.2)) (kfin (f_token_IsPosition_2_e n) Tryz.f17 (f_token_IsPosition_2_c n) (f_token_IsPosition_2_c n).b.n) = (f_token_IsPosition_2_c n).f x := by kernel_rfl
theorem f_token_IsPosition_2_ok (X : Cx Tryz.prog K Gl) (n : Nat) : FOk Tryz.prog K Gl 17 (f_token_IsPosition_2_c n) := func_ok (E := f_token_IsPosition_2_e n) (fn := Tryz.f17) (cf := (f_token_IsPosition_2_c n)) (os := []) X (tok _ _ _ _) rfl (f_token_IsPosition_2_a X n) snil (by kernel_rfl) Tryz.func17 (by kernel_rfl) (f_token_IsPosition_2_k n)
end Go.AM.T
