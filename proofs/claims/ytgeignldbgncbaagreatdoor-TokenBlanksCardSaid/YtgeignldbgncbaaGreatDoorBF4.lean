/- What the functions compute, and that they do. -/
import Derived.Test.YtgeignldbgncbaaGreatDoorBF0
import Derived.Test.YtgeignldbgncbaaGreatDoorBF3
import Derived.Test.YtgeignldbgncbaaGreatDoorKL
set_option maxRecDepth 1000000
set_option linter.unusedVariables false
namespace Go.AM.T
open Go Go.AM Go.Proofs
def f_token_IsPosition_3 (c0 : List Int × Unit × Unit) : ((List Int × Unit × Unit) × Bool) × Unit × Unit :=
 ((c0, true), (), ())
def f_token_IsPosition_3_c (n : Nat) : Cf := ⟨.fc 54 (.t (.p (.a .i8 98) (.p (.r .s) (.u))) [.ns]), .e, [⟨.tu (.c (.t (.p (.a .i8 98) (.p (.r .s) (.u))) [.ns]) (.t (.b) [])), .e, .e⟩], fun x => some (f_token_IsPosition_3 x.1)⟩
def f_token_IsPosition_3_e (n : Nat) : Env := en [] [] [] []
theorem f_token_IsPosition_3_a (X : Cx Tryz.prog K Gl) (n : Nat) : FAll Tryz.prog K Gl [] := fnil
theorem f_token_IsPosition_3_k (n : Nat) (x : (f_token_IsPosition_3_c n).a.X × (f_token_IsPosition_3_c n).b.X) : run (f_token_IsPosition_3_e n) (bodyOf Tryz.f17) (entry Tryz.f17.ntmps ((f_token_IsPosition_3_c n).a.enc x.1) ((f_token_IsPosition_3_c n).b.enc x.2)) (kfin (f_token_IsPosition_3_e n) Tryz.f17 (f_token_IsPosition_3_c n) (f_token_IsPosition_3_c n).b.n) = (f_token_IsPosition_3_c n).f x := by kernel_rfl
theorem f_token_IsPosition_3_ok (X : Cx Tryz.prog K Gl) (n : Nat) : FOk Tryz.prog K Gl 17 (f_token_IsPosition_3_c n) := func_ok (E := f_token_IsPosition_3_e n) (fn := Tryz.f17) (cf := (f_token_IsPosition_3_c n)) (os := []) X (tok _ _ _ _) rfl (f_token_IsPosition_3_a X n) snil (by kernel_rfl) Tryz.func17 (by kernel_rfl) (f_token_IsPosition_3_k n)
def f_token_IsPosition_4 (c0 : List Int × Unit × Unit) (b0 : List (Int × Int × Int × Bool × Unit)) : ((List Int × Unit × Unit) × Bool) × (List (Int × Int × Int × Bool × Unit)) × Unit :=
 ((c0, true), b0, ())
def f_token_IsPosition_4_c (n : Nat) : Cf := ⟨.fc 54 (.t (.p (.a .i8 98) (.p (.r .s) (.u))) [.w 0]), .w 82 (.p (.i .i64) (.p (.i .i64) (.p (.i .i64) (.p (.b) (.u))))) true, [⟨.tu (.c (.t (.p (.a .i8 98) (.p (.r .s) (.u))) [.w 0]) (.t (.b) [])), .w 82 (.p (.i .i64) (.p (.i .i64) (.p (.i .i64) (.p (.b) (.u))))) true, .e⟩], fun x => some (f_token_IsPosition_4 x.1 x.2)⟩
def f_token_IsPosition_4_e (n : Nat) : Env := en [] [] [] []
theorem f_token_IsPosition_4_a (X : Cx Tryz.prog K Gl) (n : Nat) : FAll Tryz.prog K Gl [] := fnil
theorem f_token_IsPosition_4_k (n : Nat) (x : (f_token_IsPosition_4_c n).a.X × (f_token_IsPosition_4_c n).b.X) : run (f_token_IsPosition_4_e n) (bodyOf Tryz.f17) (entry Tryz.f17.ntmps ((f_token_IsPosition_4_c n).a.enc x.1) ((f_token_IsPosition_4_c n).b.enc x.2)) (kfin (f_token_IsPosition_4_e n) Tryz.f17 (f_token_IsPosition_4_c n) (f_token_IsPosition_4_c n).b.n) = (f_token_IsPosition_4_c n).f x := by kernel_rfl
theorem f_token_IsPosition_4_ok (X : Cx Tryz.prog K Gl) (n : Nat) : FOk Tryz.prog K Gl 17 (f_token_IsPosition_4_c n) := func_ok (E := f_token_IsPosition_4_e n) (fn := Tryz.f17) (cf := (f_token_IsPosition_4_c n)) (os := []) X (tok _ _ _ _) rfl (f_token_IsPosition_4_a X n) snil (by kernel_rfl) Tryz.func17 (by kernel_rfl) (f_token_IsPosition_4_k n)
def f_token_Position_word (c0 : List Int × Unit × Unit) (b0 : List (Int × Int × Int × Bool × Unit)) : ByteArray × (List (Int × Int × Int × Bool × Unit)) × Unit :=
 ((⟨#[112, 111, 115, 105, 116, 105, 111, 110]⟩ : ByteArray), b0, ())
def f_token_Position_word_c (n : Nat) : Cf := ⟨.t (.p (.a .i8 98) (.p (.r .s) (.u))) [.w 0], .w 82 (.p (.i .i64) (.p (.i .i64) (.p (.i .i64) (.p (.b) (.u))))) true, [⟨.t (.s) [], .w 82 (.p (.i .i64) (.p (.i .i64) (.p (.i .i64) (.p (.b) (.u))))) true, .e⟩], fun x => some (f_token_Position_word x.1 x.2)⟩
def f_token_Position_word_e (n : Nat) : Env := en [] [] [] []
theorem f_token_Position_word_a (X : Cx Tryz.prog K Gl) (n : Nat) : FAll Tryz.prog K Gl [] := fnil
theorem f_token_Position_word_k (n : Nat) (x : (f_token_Position_word_c n).a.X × (f_token_Position_word_c n).b.X) : run (f_token_Position_word_e n) (bodyOf Tryz.f192) (entry Tryz.f192.ntmps ((f_token_Position_word_c n).a.enc x.1) ((f_token_Position_word_c n).b.enc x.2)) (kfin (f_token_Position_word_e n) Tryz.f192 (f_token_Position_word_c n) (f_token_Position_word_c n).b.n) = (f_token_Position_word_c n).f x := by kernel_rfl
theorem f_token_Position_word_ok (X : Cx Tryz.prog K Gl) (n : Nat) : FOk Tryz.prog K Gl 192 (f_token_Position_word_c n) := func_ok (E := f_token_Position_word_e n) (fn := Tryz.f192) (cf := (f_token_Position_word_c n)) (os := []) X (tok _ _ _ _) rfl (f_token_Position_word_a X n) snil (by kernel_rfl) Tryz.func192 (by kernel_rfl) (f_token_Position_word_k n)
def f_token_Word (c0 : List Int × Unit × Unit) (b0 : List (Int × Int × Int × Bool × Unit)) : ByteArray × (List (Int × Int × Int × Bool × Unit)) × Unit :=
 ((f_token_Position_word c0 b0).1, (f_token_Position_word c0 b0).2.1, ())
def f_token_Word_c (n : Nat) : Cf := ⟨.fc 54 (.t (.p (.a .i8 98) (.p (.r .s) (.u))) [.w 0]), .w 82 (.p (.i .i64) (.p (.i .i64) (.p (.i .i64) (.p (.b) (.u))))) true, [⟨.t (.s) [], .w 82 (.p (.i .i64) (.p (.i .i64) (.p (.i .i64) (.p (.b) (.u))))) true, .e⟩], fun x => some (f_token_Word x.1 x.2)⟩
def f_token_Word_e (n : Nat) : Env := en [(192, f_token_Position_word_c n)] [] [] []
theorem f_token_Word_a (X : Cx Tryz.prog K Gl) (n : Nat) : FAll Tryz.prog K Gl [(192, f_token_Position_word_c n)] := (fcons (f_token_Position_word_ok X n) fnil)
theorem f_token_Word_k (n : Nat) (x : (f_token_Word_c n).a.X × (f_token_Word_c n).b.X) : run (f_token_Word_e n) (bodyOf Tryz.f16) (entry Tryz.f16.ntmps ((f_token_Word_c n).a.enc x.1) ((f_token_Word_c n).b.enc x.2)) (kfin (f_token_Word_e n) Tryz.f16 (f_token_Word_c n) (f_token_Word_c n).b.n) = (f_token_Word_c n).f x := by kernel_rfl
theorem f_token_Word_ok (X : Cx Tryz.prog K Gl) (n : Nat) : FOk Tryz.prog K Gl 16 (f_token_Word_c n) := func_ok (E := f_token_Word_e n) (fn := Tryz.f16) (cf := (f_token_Word_c n)) (os := []) X (tok _ _ _ _) rfl (f_token_Word_a X n) snil (by kernel_rfl) Tryz.func16 (by kernel_rfl) (f_token_Word_k n)
def f_token_IsPosition_5 (c0 : Int × Unit) : ((List Int × Unit × Unit) × Bool) × Unit × Unit :=
 (((List.replicate 98 0, (), ()), false), (), ())
def f_token_IsPosition_5_c (n : Nat) : Cf := ⟨.fc 58 (.t (.p (.i .i64) (.u)) []), .e, [⟨.tu (.c (.t (.p (.a .i8 98) (.p (.r .s) (.u))) [.ns]) (.t (.b) [])), .e, .e⟩], fun x => some (f_token_IsPosition_5 x.1)⟩
def f_token_IsPosition_5_e (n : Nat) : Env := en [] [] [] []
theorem f_token_IsPosition_5_a (X : Cx Tryz.prog K Gl) (n : Nat) : FAll Tryz.prog K Gl [] := fnil
theorem f_token_IsPosition_5_k (n : Nat) (x : (f_token_IsPosition_5_c n).a.X × (f_token_IsPosition_5_c n).b.X) : run (f_token_IsPosition_5_e n) (bodyOf Tryz.f17) (entry Tryz.f17.ntmps ((f_token_IsPosition_5_c n).a.enc x.1) ((f_token_IsPosition_5_c n).b.enc x.2)) (kfin (f_token_IsPosition_5_e n) Tryz.f17 (f_token_IsPosition_5_c n) (f_token_IsPosition_5_c n).b.n) = (f_token_IsPosition_5_c n).f x := by kernel_rfl
theorem f_token_IsPosition_5_ok (X : Cx Tryz.prog K Gl) (n : Nat) : FOk Tryz.prog K Gl 17 (f_token_IsPosition_5_c n) := func_ok (E := f_token_IsPosition_5_e n) (fn := Tryz.f17) (cf := (f_token_IsPosition_5_c n)) (os := []) X (tok _ _ _ _) rfl (f_token_IsPosition_5_a X n) snil (by kernel_rfl) Tryz.func17 (by kernel_rfl) (f_token_IsPosition_5_k n)
def f_token_IsPosition_6 (c0 : Int × Int × Unit) : ((List Int × Unit × Unit) × Bool) × Unit × Unit :=
 (((List.replicate 98 0, (), ()), false), (), ())
def f_token_IsPosition_6_c (n : Nat) : Cf := ⟨.fc 32 (.t (.p (.i .i64) (.p (.i .i64) (.u))) []), .e, [⟨.tu (.c (.t (.p (.a .i8 98) (.p (.r .s) (.u))) [.ns]) (.t (.b) [])), .e, .e⟩], fun x => some (f_token_IsPosition_6 x.1)⟩
def f_token_IsPosition_6_e (n : Nat) : Env := en [] [] [] []
theorem f_token_IsPosition_6_a (X : Cx Tryz.prog K Gl) (n : Nat) : FAll Tryz.prog K Gl [] := fnil
theorem f_token_IsPosition_6_k (n : Nat) (x : (f_token_IsPosition_6_c n).a.X × (f_token_IsPosition_6_c n).b.X) : run (f_token_IsPosition_6_e n) (bodyOf Tryz.f17) (entry Tryz.f17.ntmps ((f_token_IsPosition_6_c n).a.enc x.1) ((f_token_IsPosition_6_c n).b.enc x.2)) (kfin (f_token_IsPosition_6_e n) Tryz.f17 (f_token_IsPosition_6_c n) (f_token_IsPosition_6_c n).b.n) = (f_token_IsPosition_6_c n).f x := by kernel_rfl
theorem f_token_IsPosition_6_ok (X : Cx Tryz.prog K Gl) (n : Nat) : FOk Tryz.prog K Gl 17 (f_token_IsPosition_6_c n) := func_ok (E := f_token_IsPosition_6_e n) (fn := Tryz.f17) (cf := (f_token_IsPosition_6_c n)) (os := []) X (tok _ _ _ _) rfl (f_token_IsPosition_6_a X n) snil (by kernel_rfl) Tryz.func17 (by kernel_rfl) (f_token_IsPosition_6_k n)
def f_kakugyolaw22_reads (n : Nat)  : Option (Bool × Unit × Unit) :=
 ob (f_token_Parse n (⟨#[112, 111, 115, 105, 116, 105, 111, 110, 32, 115, 116, 97, 114, 116, 112, 111, 115, 32, 109, 111, 118, 101, 115, 32, 55, 103, 55, 102]⟩ : ByteArray)) fun y14 =>
 sm y14 (fun y15 =>
  ob (f_token_Parse n (⟨#[32, 103, 111, 32, 32, 100, 101, 112, 116, 104, 32, 51, 32]⟩ : ByteArray)) fun y30 =>
  sm y30 (fun y31 =>
   Br (eq y15.1.2 0)
    (Br (f_token_IsPosition.1.2)
     (ob (f_board_Start n) fun y33 =>
     Br (List.beq f_token_IsPosition.1.1.1 y33.1)
      (some (false, (), ()))
      (some (false, (), ())))
     (some (false, (), ())))
    (some (false, (), ())))
   (fun y32 =>
   sm y32 (fun y34 =>
    Br (eq y15.1.2 0)
     (Br (f_token_IsPosition.1.2)
      (ob (f_board_Start n) fun y36 =>
      Br (List.beq f_token_IsPosition.1.1.1 y36.1)
       (some (false, (), ()))
       (some (false, (), ())))
      (some (false, (), ())))
     (some (false, (), ())))
    (fun y35 =>
    sm y35 (fun y37 =>
     Br (eq y15.1.2 0)
      (Br (f_token_IsPosition.1.2)
       (ob (f_board_Start n) fun y39 =>
       Br (List.beq f_token_IsPosition.1.1.1 y39.1)
        (some (false, (), ()))
        (some (false, (), ())))
       (some (false, (), ())))
      (some (false, (), ())))
     (fun y38 =>
     sm y38 (fun y40 =>
      Br (eq y15.1.2 0)
       (Br (f_token_IsPosition.1.2)
        (ob (f_board_Start n) fun y42 =>
        Br (List.beq f_token_IsPosition.1.1.1 y42.1)
         (some (false, (), ()))
         (some (false, (), ())))
        (some (false, (), ())))
       (some (false, (), ())))
      (fun y41 =>
      sm y41 (fun y43 =>
       Br (eq y15.1.2 0)
        (Br (f_token_IsPosition.1.2)
         (ob (f_board_Start n) fun y45 =>
         Br (List.beq f_token_IsPosition.1.1.1 y45.1)
          (some (false, (), ()))
          (some (false, (), ())))
         (some (false, (), ())))
        (some (false, (), ())))
       (fun y44 =>
       sm y44 (fun y46 =>
        Br (eq y15.1.2 0)
         (Br (f_token_IsPosition.1.2)
          (ob (f_board_Start n) fun y48 =>
          Br (List.beq f_token_IsPosition.1.1.1 y48.1)
           (some (false, (), ()))
           (some (false, (), ())))
          (some (false, (), ())))
         (some (false, (), ())))
        (fun y47 =>
        Br (eq y15.1.2 0)
         (Br (f_token_IsPosition.1.2)
          (ob (f_board_Start n) fun y49 =>
          Br (List.beq f_token_IsPosition.1.1.1 y49.1)
           (some (false, (), ()))
           (some (false, (), ())))
          (some (false, (), ())))
         (some (false, (), ())))))))))
  (fun y16 =>
  sm y16 (fun y50 =>
   ob (f_token_Parse n (⟨#[32, 103, 111, 32, 32, 100, 101, 112, 116, 104, 32, 51, 32]⟩ : ByteArray)) fun y65 =>
   sm y65 (fun y66 =>
    Br (eq y50.1.2 0)
     (Br ((f_token_IsPosition_1 y50.1.1).1.2)
      (ob (f_board_Start n) fun y68 =>
      Br (List.beq (f_token_IsPosition_1 y50.1.1).1.1.1 y68.1)
       (some (false, (), ()))
       (some (false, (), ())))
      (some (false, (), ())))
     (some (false, (), ())))
    (fun y67 =>
    sm y67 (fun y69 =>
     Br (eq y50.1.2 0)
      (Br ((f_token_IsPosition_1 y50.1.1).1.2)
       (ob (f_board_Start n) fun y71 =>
       Br (List.beq (f_token_IsPosition_1 y50.1.1).1.1.1 y71.1)
        (some (false, (), ()))
        (some (false, (), ())))
       (some (false, (), ())))
      (some (false, (), ())))
     (fun y70 =>
     sm y70 (fun y72 =>
      Br (eq y50.1.2 0)
       (Br ((f_token_IsPosition_1 y50.1.1).1.2)
        (ob (f_board_Start n) fun y74 =>
        Br (List.beq (f_token_IsPosition_1 y50.1.1).1.1.1 y74.1)
         (some (false, (), ()))
         (some (false, (), ())))
        (some (false, (), ())))
       (some (false, (), ())))
      (fun y73 =>
      sm y73 (fun y75 =>
       Br (eq y50.1.2 0)
        (Br ((f_token_IsPosition_1 y50.1.1).1.2)
         (ob (f_board_Start n) fun y77 =>
         Br (List.beq (f_token_IsPosition_1 y50.1.1).1.1.1 y77.1)
          (some (false, (), ()))
          (some (false, (), ())))
         (some (false, (), ())))
        (some (false, (), ())))
       (fun y76 =>
       sm y76 (fun y78 =>
        Br (eq y50.1.2 0)
         (Br ((f_token_IsPosition_1 y50.1.1).1.2)
          (ob (f_board_Start n) fun y80 =>
          Br (List.beq (f_token_IsPosition_1 y50.1.1).1.1.1 y80.1)
           (some (false, (), ()))
           (some (false, (), ())))
          (some (false, (), ())))
         (some (false, (), ())))
        (fun y79 =>
        sm y79 (fun y81 =>
         Br (eq y50.1.2 0)
          (Br ((f_token_IsPosition_1 y50.1.1).1.2)
           (ob (f_board_Start n) fun y83 =>
           Br (List.beq (f_token_IsPosition_1 y50.1.1).1.1.1 y83.1)
            (some (false, (), ()))
            (some (false, (), ())))
           (some (false, (), ())))
          (some (false, (), ())))
         (fun y82 =>
         Br (eq y50.1.2 0)
          (Br ((f_token_IsPosition_1 y50.1.1).1.2)
           (ob (f_board_Start n) fun y84 =>
           Br (List.beq (f_token_IsPosition_1 y50.1.1).1.1.1 y84.1)
            (some (false, (), ()))
            (some (false, (), ())))
           (some (false, (), ())))
          (some (false, (), ())))))))))
   (fun y51 =>
   sm y51 (fun y85 =>
    ob (f_token_Parse n (⟨#[32, 103, 111, 32, 32, 100, 101, 112, 116, 104, 32, 51, 32]⟩ : ByteArray)) fun y100 =>
    sm y100 (fun y101 =>
     Br (eq y85.1.2 0)
      (Br ((f_token_IsPosition_2 y85.1.1).1.2)
       (ob (f_board_Start n) fun y103 =>
       Br (List.beq (f_token_IsPosition_2 y85.1.1).1.1.1 y103.1)
        (some (false, (), ()))
        (some (false, (), ())))
       (some (false, (), ())))
      (some (false, (), ())))
     (fun y102 =>
     sm y102 (fun y104 =>
      Br (eq y85.1.2 0)
       (Br ((f_token_IsPosition_2 y85.1.1).1.2)
        (ob (f_board_Start n) fun y106 =>
        Br (List.beq (f_token_IsPosition_2 y85.1.1).1.1.1 y106.1)
         (some (false, (), ()))
         (some (false, (), ())))
        (some (false, (), ())))
       (some (false, (), ())))
      (fun y105 =>
      sm y105 (fun y107 =>
       Br (eq y85.1.2 0)
        (Br ((f_token_IsPosition_2 y85.1.1).1.2)
         (ob (f_board_Start n) fun y109 =>
         Br (List.beq (f_token_IsPosition_2 y85.1.1).1.1.1 y109.1)
          (some (false, (), ()))
          (some (false, (), ())))
         (some (false, (), ())))
        (some (false, (), ())))
       (fun y108 =>
       sm y108 (fun y110 =>
        Br (eq y85.1.2 0)
         (Br ((f_token_IsPosition_2 y85.1.1).1.2)
          (ob (f_board_Start n) fun y112 =>
          Br (List.beq (f_token_IsPosition_2 y85.1.1).1.1.1 y112.1)
           (some (false, (), ()))
           (some (false, (), ())))
          (some (false, (), ())))
         (some (false, (), ())))
        (fun y111 =>
        sm y111 (fun y113 =>
         Br (eq y85.1.2 0)
          (Br ((f_token_IsPosition_2 y85.1.1).1.2)
           (ob (f_board_Start n) fun y115 =>
           Br (List.beq (f_token_IsPosition_2 y85.1.1).1.1.1 y115.1)
            (some (false, (), ()))
            (some (false, (), ())))
           (some (false, (), ())))
          (some (false, (), ())))
         (fun y114 =>
         sm y114 (fun y116 =>
          Br (eq y85.1.2 0)
           (Br ((f_token_IsPosition_2 y85.1.1).1.2)
            (ob (f_board_Start n) fun y118 =>
            Br (List.beq (f_token_IsPosition_2 y85.1.1).1.1.1 y118.1)
             (some (false, (), ()))
             (some (false, (), ())))
            (some (false, (), ())))
           (some (false, (), ())))
          (fun y117 =>
          Br (eq y85.1.2 0)
           (Br ((f_token_IsPosition_2 y85.1.1).1.2)
            (ob (f_board_Start n) fun y119 =>
            Br (List.beq (f_token_IsPosition_2 y85.1.1).1.1.1 y119.1)
             (some (false, (), ()))
             (some (false, (), ())))
            (some (false, (), ())))
           (some (false, (), ())))))))))
    (fun y86 =>
    sm y86 (fun y120 =>
     ob (f_token_Parse n (⟨#[32, 103, 111, 32, 32, 100, 101, 112, 116, 104, 32, 51, 32]⟩ : ByteArray)) fun y135 =>
     sm y135 (fun y136 =>
      Br (eq y120.1.2 0)
       (Br ((f_token_IsPosition_3 y120.1.1).1.2)
        (ob (f_board_Start n) fun y138 =>
        Br (List.beq (f_token_IsPosition_3 y120.1.1).1.1.1 y138.1)
         (some (false, (), ()))
         (some (false, (), ())))
        (some (false, (), ())))
       (some (false, (), ())))
      (fun y137 =>
      sm y137 (fun y139 =>
       Br (eq y120.1.2 0)
        (Br ((f_token_IsPosition_3 y120.1.1).1.2)
         (ob (f_board_Start n) fun y141 =>
         Br (List.beq (f_token_IsPosition_3 y120.1.1).1.1.1 y141.1)
          (some (false, (), ()))
          (some (false, (), ())))
         (some (false, (), ())))
        (some (false, (), ())))
       (fun y140 =>
       sm y140 (fun y142 =>
        Br (eq y120.1.2 0)
         (Br ((f_token_IsPosition_3 y120.1.1).1.2)
          (ob (f_board_Start n) fun y144 =>
          Br (List.beq (f_token_IsPosition_3 y120.1.1).1.1.1 y144.1)
           (some (false, (), ()))
           (some (false, (), ())))
          (some (false, (), ())))
         (some (false, (), ())))
        (fun y143 =>
        sm y143 (fun y145 =>
         Br (eq y120.1.2 0)
          (Br ((f_token_IsPosition_3 y120.1.1).1.2)
           (ob (f_board_Start n) fun y147 =>
           Br (List.beq (f_token_IsPosition_3 y120.1.1).1.1.1 y147.1)
            (some (false, (), ()))
            (some (false, (), ())))
           (some (false, (), ())))
          (some (false, (), ())))
         (fun y146 =>
         sm y146 (fun y148 =>
          Br (eq y120.1.2 0)
           (Br ((f_token_IsPosition_3 y120.1.1).1.2)
            (ob (f_board_Start n) fun y150 =>
            Br (List.beq (f_token_IsPosition_3 y120.1.1).1.1.1 y150.1)
             (some (false, (), ()))
             (some (false, (), ())))
            (some (false, (), ())))
           (some (false, (), ())))
          (fun y149 =>
          sm y149 (fun y151 =>
           Br (eq y120.1.2 0)
            (Br ((f_token_IsPosition_3 y120.1.1).1.2)
             (ob (f_board_Start n) fun y153 =>
             Br (List.beq (f_token_IsPosition_3 y120.1.1).1.1.1 y153.1)
              (some (false, (), ()))
              (some (false, (), ())))
             (some (false, (), ())))
            (some (false, (), ())))
           (fun y152 =>
           Br (eq y120.1.2 0)
            (Br ((f_token_IsPosition_3 y120.1.1).1.2)
             (ob (f_board_Start n) fun y154 =>
             Br (List.beq (f_token_IsPosition_3 y120.1.1).1.1.1 y154.1)
              (some (false, (), ()))
              (some (false, (), ())))
             (some (false, (), ())))
            (some (false, (), ())))))))))
     (fun y121 =>
     sm y121 (fun y155 =>
      ob (f_token_Parse n (⟨#[32, 103, 111, 32, 32, 100, 101, 112, 116, 104, 32, 51, 32]⟩ : ByteArray)) fun y170 =>
      sm y170 (fun y171 =>
       Br (eq y155.1.2 0)
        (Br ((f_token_IsPosition_4 y155.1.1 y155.2.2).1.2)
         (ob (f_board_Start n) fun y173 =>
         Br (List.beq (f_token_IsPosition_4 y155.1.1 y155.2.2).1.1.1 y173.1)
          (Br (eq ((f_token_IsPosition_4 y155.1.1 y155.2.2).2.1.length : Int) 1)
           (Br (seq (f_token_Word y155.1.1 (f_token_IsPosition_4 y155.1.1 y155.2.2).2.1).1 (⟨#[112, 111, 115, 105, 116, 105, 111, 110]⟩ : ByteArray))
            (Br (eq y171.1.2 0)
             (Br (f_token_IsGo.1.2)
              (some (bif eq f_token_IsGo.1.1.1 3 then true else false, (), ()))
              (some (false, (), ())))
             (some (false, (), ())))
            (some (false, (), ())))
           (some (false, (), ())))
          (some (false, (), ())))
         (some (false, (), ())))
        (some (false, (), ())))
       (fun y172 =>
       sm y172 (fun y174 =>
        Br (eq y155.1.2 0)
         (Br ((f_token_IsPosition_4 y155.1.1 y155.2.2).1.2)
          (ob (f_board_Start n) fun y176 =>
          Br (List.beq (f_token_IsPosition_4 y155.1.1 y155.2.2).1.1.1 y176.1)
           (Br (eq ((f_token_IsPosition_4 y155.1.1 y155.2.2).2.1.length : Int) 1)
            (Br (seq (f_token_Word y155.1.1 (f_token_IsPosition_4 y155.1.1 y155.2.2).2.1).1 (⟨#[112, 111, 115, 105, 116, 105, 111, 110]⟩ : ByteArray))
             (Br (eq y174.1.2 0)
              (Br ((f_token_IsGo_1 y174.1.1).1.2)
               (some (bif eq (f_token_IsGo_1 y174.1.1).1.1.1 3 then true else false, (), ()))
               (some (false, (), ())))
              (some (false, (), ())))
             (some (false, (), ())))
            (some (false, (), ())))
           (some (false, (), ())))
          (some (false, (), ())))
         (some (false, (), ())))
        (fun y175 =>
        sm y175 (fun y177 =>
         Br (eq y155.1.2 0)
          (Br ((f_token_IsPosition_4 y155.1.1 y155.2.2).1.2)
           (ob (f_board_Start n) fun y179 =>
           Br (List.beq (f_token_IsPosition_4 y155.1.1 y155.2.2).1.1.1 y179.1)
            (Br (eq ((f_token_IsPosition_4 y155.1.1 y155.2.2).2.1.length : Int) 1)
             (Br (seq (f_token_Word y155.1.1 (f_token_IsPosition_4 y155.1.1 y155.2.2).2.1).1 (⟨#[112, 111, 115, 105, 116, 105, 111, 110]⟩ : ByteArray))
              (Br (eq y177.1.2 0)
               (Br ((f_token_IsGo_2 y177.1.1).1.2)
                (some (bif eq (f_token_IsGo_2 y177.1.1).1.1.1 3 then true else false, (), ()))
                (some (false, (), ())))
               (some (false, (), ())))
              (some (false, (), ())))
             (some (false, (), ())))
            (some (false, (), ())))
           (some (false, (), ())))
          (some (false, (), ())))
         (fun y178 =>
         sm y178 (fun y180 =>
          Br (eq y155.1.2 0)
           (Br ((f_token_IsPosition_4 y155.1.1 y155.2.2).1.2)
            (ob (f_board_Start n) fun y182 =>
            Br (List.beq (f_token_IsPosition_4 y155.1.1 y155.2.2).1.1.1 y182.1)
             (Br (eq ((f_token_IsPosition_4 y155.1.1 y155.2.2).2.1.length : Int) 1)
              (Br (seq (f_token_Word y155.1.1 (f_token_IsPosition_4 y155.1.1 y155.2.2).2.1).1 (⟨#[112, 111, 115, 105, 116, 105, 111, 110]⟩ : ByteArray))
               (Br (eq y180.1.2 0)
                (Br ((f_token_IsGo_3 y180.1.1).1.2)
                 (some (bif eq (f_token_IsGo_3 y180.1.1).1.1.1 3 then true else false, (), ()))
                 (some (false, (), ())))
                (some (false, (), ())))
               (some (false, (), ())))
              (some (false, (), ())))
             (some (false, (), ())))
            (some (false, (), ())))
           (some (false, (), ())))
          (fun y181 =>
          sm y181 (fun y183 =>
           Br (eq y155.1.2 0)
            (Br ((f_token_IsPosition_4 y155.1.1 y155.2.2).1.2)
             (ob (f_board_Start n) fun y185 =>
             Br (List.beq (f_token_IsPosition_4 y155.1.1 y155.2.2).1.1.1 y185.1)
              (Br (eq ((f_token_IsPosition_4 y155.1.1 y155.2.2).2.1.length : Int) 1)
               (Br (seq (f_token_Word y155.1.1 (f_token_IsPosition_4 y155.1.1 y155.2.2).2.1).1 (⟨#[112, 111, 115, 105, 116, 105, 111, 110]⟩ : ByteArray))
                (Br (eq y183.1.2 0)
                 (Br ((f_token_IsGo_4 y183.1.1 y183.2.2).1.2)
                  (some (bif eq (f_token_IsGo_4 y183.1.1 y183.2.2).1.1.1 3 then true else false, (), ()))
                  (some (false, (), ())))
                 (some (false, (), ())))
                (some (false, (), ())))
               (some (false, (), ())))
              (some (false, (), ())))
             (some (false, (), ())))
            (some (false, (), ())))
           (fun y184 =>
           sm y184 (fun y186 =>
            Br (eq y155.1.2 0)
             (Br ((f_token_IsPosition_4 y155.1.1 y155.2.2).1.2)
              (ob (f_board_Start n) fun y188 =>
              Br (List.beq (f_token_IsPosition_4 y155.1.1 y155.2.2).1.1.1 y188.1)
               (Br (eq ((f_token_IsPosition_4 y155.1.1 y155.2.2).2.1.length : Int) 1)
                (Br (seq (f_token_Word y155.1.1 (f_token_IsPosition_4 y155.1.1 y155.2.2).2.1).1 (⟨#[112, 111, 115, 105, 116, 105, 111, 110]⟩ : ByteArray))
                 (Br (eq y186.1.2 0)
                  (Br ((f_token_IsGo_5 y186.1.1).1.2)
                   (some (bif eq (f_token_IsGo_5 y186.1.1).1.1.1 3 then true else false, (), ()))
                   (some (false, (), ())))
                  (some (false, (), ())))
                 (some (false, (), ())))
                (some (false, (), ())))
               (some (false, (), ())))
              (some (false, (), ())))
             (some (false, (), ())))
            (fun y187 =>
            Br (eq y155.1.2 0)
             (Br ((f_token_IsPosition_4 y155.1.1 y155.2.2).1.2)
              (ob (f_board_Start n) fun y189 =>
              Br (List.beq (f_token_IsPosition_4 y155.1.1 y155.2.2).1.1.1 y189.1)
               (Br (eq ((f_token_IsPosition_4 y155.1.1 y155.2.2).2.1.length : Int) 1)
                (Br (seq (f_token_Word y155.1.1 (f_token_IsPosition_4 y155.1.1 y155.2.2).2.1).1 (⟨#[112, 111, 115, 105, 116, 105, 111, 110]⟩ : ByteArray))
                 (Br (eq y187.1.2 0)
                  (Br ((f_token_IsGo_6 y187.1.1).1.2)
                   (some (bif eq (f_token_IsGo_6 y187.1.1).1.1.1 3 then true else false, (), ()))
                   (some (false, (), ())))
                  (some (false, (), ())))
                 (some (false, (), ())))
                (some (false, (), ())))
               (some (false, (), ())))
              (some (false, (), ())))
             (some (false, (), ())))))))))
      (fun y156 =>
      sm y156 (fun y190 =>
       ob (f_token_Parse n (⟨#[32, 103, 111, 32, 32, 100, 101, 112, 116, 104, 32, 51, 32]⟩ : ByteArray)) fun y205 =>
       sm y205 (fun y206 =>
        Br (eq y190.1.2 0)
         (Br ((f_token_IsPosition_5 y190.1.1).1.2)
          (ob (f_board_Start n) fun y208 =>
          Br (List.beq (f_token_IsPosition_5 y190.1.1).1.1.1 y208.1)
           (some (false, (), ()))
           (some (false, (), ())))
          (some (false, (), ())))
         (some (false, (), ())))
        (fun y207 =>
        sm y207 (fun y209 =>
         Br (eq y190.1.2 0)
          (Br ((f_token_IsPosition_5 y190.1.1).1.2)
           (ob (f_board_Start n) fun y211 =>
           Br (List.beq (f_token_IsPosition_5 y190.1.1).1.1.1 y211.1)
            (some (false, (), ()))
            (some (false, (), ())))
           (some (false, (), ())))
          (some (false, (), ())))
         (fun y210 =>
         sm y210 (fun y212 =>
          Br (eq y190.1.2 0)
           (Br ((f_token_IsPosition_5 y190.1.1).1.2)
            (ob (f_board_Start n) fun y214 =>
            Br (List.beq (f_token_IsPosition_5 y190.1.1).1.1.1 y214.1)
             (some (false, (), ()))
             (some (false, (), ())))
            (some (false, (), ())))
           (some (false, (), ())))
          (fun y213 =>
          sm y213 (fun y215 =>
           Br (eq y190.1.2 0)
            (Br ((f_token_IsPosition_5 y190.1.1).1.2)
             (ob (f_board_Start n) fun y217 =>
             Br (List.beq (f_token_IsPosition_5 y190.1.1).1.1.1 y217.1)
              (some (false, (), ()))
              (some (false, (), ())))
             (some (false, (), ())))
            (some (false, (), ())))
           (fun y216 =>
           sm y216 (fun y218 =>
            Br (eq y190.1.2 0)
             (Br ((f_token_IsPosition_5 y190.1.1).1.2)
              (ob (f_board_Start n) fun y220 =>
              Br (List.beq (f_token_IsPosition_5 y190.1.1).1.1.1 y220.1)
               (some (false, (), ()))
               (some (false, (), ())))
              (some (false, (), ())))
             (some (false, (), ())))
            (fun y219 =>
            sm y219 (fun y221 =>
             Br (eq y190.1.2 0)
              (Br ((f_token_IsPosition_5 y190.1.1).1.2)
               (ob (f_board_Start n) fun y223 =>
               Br (List.beq (f_token_IsPosition_5 y190.1.1).1.1.1 y223.1)
                (some (false, (), ()))
                (some (false, (), ())))
               (some (false, (), ())))
              (some (false, (), ())))
             (fun y222 =>
             Br (eq y190.1.2 0)
              (Br ((f_token_IsPosition_5 y190.1.1).1.2)
               (ob (f_board_Start n) fun y224 =>
               Br (List.beq (f_token_IsPosition_5 y190.1.1).1.1.1 y224.1)
                (some (false, (), ()))
                (some (false, (), ())))
               (some (false, (), ())))
              (some (false, (), ())))))))))
       (fun y191 =>
       ob (f_token_Parse n (⟨#[32, 103, 111, 32, 32, 100, 101, 112, 116, 104, 32, 51, 32]⟩ : ByteArray)) fun y238 =>
       sm y238 (fun y239 =>
        Br (eq y191.1.2 0)
         (Br ((f_token_IsPosition_6 y191.1.1).1.2)
          (ob (f_board_Start n) fun y241 =>
          Br (List.beq (f_token_IsPosition_6 y191.1.1).1.1.1 y241.1)
           (some (false, (), ()))
           (some (false, (), ())))
          (some (false, (), ())))
         (some (false, (), ())))
        (fun y240 =>
        sm y240 (fun y242 =>
         Br (eq y191.1.2 0)
          (Br ((f_token_IsPosition_6 y191.1.1).1.2)
           (ob (f_board_Start n) fun y244 =>
           Br (List.beq (f_token_IsPosition_6 y191.1.1).1.1.1 y244.1)
            (some (false, (), ()))
            (some (false, (), ())))
           (some (false, (), ())))
          (some (false, (), ())))
         (fun y243 =>
         sm y243 (fun y245 =>
          Br (eq y191.1.2 0)
           (Br ((f_token_IsPosition_6 y191.1.1).1.2)
            (ob (f_board_Start n) fun y247 =>
            Br (List.beq (f_token_IsPosition_6 y191.1.1).1.1.1 y247.1)
             (some (false, (), ()))
             (some (false, (), ())))
            (some (false, (), ())))
           (some (false, (), ())))
          (fun y246 =>
          sm y246 (fun y248 =>
           Br (eq y191.1.2 0)
            (Br ((f_token_IsPosition_6 y191.1.1).1.2)
             (ob (f_board_Start n) fun y250 =>
             Br (List.beq (f_token_IsPosition_6 y191.1.1).1.1.1 y250.1)
              (some (false, (), ()))
              (some (false, (), ())))
             (some (false, (), ())))
            (some (false, (), ())))
           (fun y249 =>
           sm y249 (fun y251 =>
            Br (eq y191.1.2 0)
             (Br ((f_token_IsPosition_6 y191.1.1).1.2)
              (ob (f_board_Start n) fun y253 =>
              Br (List.beq (f_token_IsPosition_6 y191.1.1).1.1.1 y253.1)
               (some (false, (), ()))
               (some (false, (), ())))
              (some (false, (), ())))
             (some (false, (), ())))
            (fun y252 =>
            sm y252 (fun y254 =>
             Br (eq y191.1.2 0)
              (Br ((f_token_IsPosition_6 y191.1.1).1.2)
               (ob (f_board_Start n) fun y256 =>
               Br (List.beq (f_token_IsPosition_6 y191.1.1).1.1.1 y256.1)
                (some (false, (), ()))
                (some (false, (), ())))
               (some (false, (), ())))
              (some (false, (), ())))
             (fun y255 =>
             Br (eq y191.1.2 0)
              (Br ((f_token_IsPosition_6 y191.1.1).1.2)
               (ob (f_board_Start n) fun y257 =>
               Br (List.beq (f_token_IsPosition_6 y191.1.1).1.1.1 y257.1)
                (some (false, (), ()))
                (some (false, (), ())))
               (some (false, (), ())))
              (some (false, (), ()))))))))))))))
def f_kakugyolaw22_reads_c (n : Nat) : Cf := ⟨.e, .e, [⟨.t (.b) [], .e, .e⟩], fun x => f_kakugyolaw22_reads n⟩
def f_kakugyolaw22_reads_e (n : Nat) : Env := en [(11, f_token_Parse_c n), (17, f_token_IsPosition_c n), (12, f_token_IsGo_c n), (24, f_board_Start_c n), (12, f_token_IsGo_1_c n), (12, f_token_IsGo_2_c n), (12, f_token_IsGo_3_c n), (12, f_token_IsGo_4_c n), (12, f_token_IsGo_5_c n), (12, f_token_IsGo_6_c n), (17, f_token_IsPosition_1_c n), (17, f_token_IsPosition_2_c n), (17, f_token_IsPosition_3_c n), (17, f_token_IsPosition_4_c n), (16, f_token_Word_c n), (17, f_token_IsPosition_5_c n), (17, f_token_IsPosition_6_c n)] [] [] []
theorem f_kakugyolaw22_reads_a (X : Cx Tryz.prog K Gl) (n : Nat) : FAll Tryz.prog K Gl [(11, f_token_Parse_c n), (17, f_token_IsPosition_c n), (12, f_token_IsGo_c n), (24, f_board_Start_c n), (12, f_token_IsGo_1_c n), (12, f_token_IsGo_2_c n), (12, f_token_IsGo_3_c n), (12, f_token_IsGo_4_c n), (12, f_token_IsGo_5_c n), (12, f_token_IsGo_6_c n), (17, f_token_IsPosition_1_c n), (17, f_token_IsPosition_2_c n), (17, f_token_IsPosition_3_c n), (17, f_token_IsPosition_4_c n), (16, f_token_Word_c n), (17, f_token_IsPosition_5_c n), (17, f_token_IsPosition_6_c n)] := (fcons (f_token_Parse_ok X n) (fcons (f_token_IsPosition_ok X n) (fcons (f_token_IsGo_ok X n) (fcons (f_board_Start_ok X n) (fcons (f_token_IsGo_1_ok X n) (fcons (f_token_IsGo_2_ok X n) (fcons (f_token_IsGo_3_ok X n) (fcons (f_token_IsGo_4_ok X n) (fcons (f_token_IsGo_5_ok X n) (fcons (f_token_IsGo_6_ok X n) (fcons (f_token_IsPosition_1_ok X n) (fcons (f_token_IsPosition_2_ok X n) (fcons (f_token_IsPosition_3_ok X n) (fcons (f_token_IsPosition_4_ok X n) (fcons (f_token_Word_ok X n) (fcons (f_token_IsPosition_5_ok X n) (fcons (f_token_IsPosition_6_ok X n) fnil)))))))))))))))))
theorem f_kakugyolaw22_reads_k (n : Nat) (x : (f_kakugyolaw22_reads_c n).a.X × (f_kakugyolaw22_reads_c n).b.X) : run (f_kakugyolaw22_reads_e n) (bodyOf Tryz.f8) (entry Tryz.f8.ntmps ((f_kakugyolaw22_reads_c n).a.enc x.1) ((f_kakugyolaw22_reads_c n).b.enc x.2)) (kfin (f_kakugyolaw22_reads_e n) Tryz.f8 (f_kakugyolaw22_reads_c n) (f_kakugyolaw22_reads_c n).b.n) = (f_kakugyolaw22_reads_c n).f x := by kernel_rfl
theorem f_kakugyolaw22_reads_ok (X : Cx Tryz.prog K Gl) (n : Nat) : FOk Tryz.prog K Gl 8 (f_kakugyolaw22_reads_c n) := func_ok (E := f_kakugyolaw22_reads_e n) (fn := Tryz.f8) (cf := (f_kakugyolaw22_reads_c n)) (os := []) X (tok _ _ _ _) rfl (f_kakugyolaw22_reads_a X n) snil (by kernel_rfl) Tryz.func8 (by kernel_rfl) (f_kakugyolaw22_reads_k n)
def f_token_Word_1  : ByteArray × Unit × Unit :=
 ((⟨#[]⟩ : ByteArray), (), ())
def f_token_Word_1_c (n : Nat) : Cf := ⟨.nf, .e, [⟨.t (.s) [], .e, .e⟩], fun x => some (f_token_Word_1)⟩
def f_token_Word_1_e (n : Nat) : Env := en [] [] [] []
theorem f_token_Word_1_a (X : Cx Tryz.prog K Gl) (n : Nat) : FAll Tryz.prog K Gl [] := fnil
theorem f_token_Word_1_k (n : Nat) (x : (f_token_Word_1_c n).a.X × (f_token_Word_1_c n).b.X) : run (f_token_Word_1_e n) (bodyOf Tryz.f16) (entry Tryz.f16.ntmps ((f_token_Word_1_c n).a.enc x.1) ((f_token_Word_1_c n).b.enc x.2)) (kfin (f_token_Word_1_e n) Tryz.f16 (f_token_Word_1_c n) (f_token_Word_1_c n).b.n) = (f_token_Word_1_c n).f x := by kernel_rfl
theorem f_token_Word_1_ok (X : Cx Tryz.prog K Gl) (n : Nat) : FOk Tryz.prog K Gl 16 (f_token_Word_1_c n) := func_ok (E := f_token_Word_1_e n) (fn := Tryz.f16) (cf := (f_token_Word_1_c n)) (os := []) X (tok _ _ _ _) rfl (f_token_Word_1_a X n) snil (by kernel_rfl) Tryz.func16 (by kernel_rfl) (f_token_Word_1_k n)
def f_token_IsOption  : ((ByteArray × ByteArray × Unit) × Bool) × Unit × Unit :=
 ((((⟨#[]⟩ : ByteArray), (⟨#[]⟩ : ByteArray), ()), false), (), ())
def f_token_IsOption_c (n : Nat) : Cf := ⟨.nf, .e, [⟨.tu (.c (.t (.p (.s) (.p (.s) (.u))) []) (.t (.b) [])), .e, .e⟩], fun x => some (f_token_IsOption)⟩
def f_token_IsOption_e (n : Nat) : Env := en [] [] [] []
theorem f_token_IsOption_a (X : Cx Tryz.prog K Gl) (n : Nat) : FAll Tryz.prog K Gl [] := fnil
theorem f_token_IsOption_k (n : Nat) (x : (f_token_IsOption_c n).a.X × (f_token_IsOption_c n).b.X) : run (f_token_IsOption_e n) (bodyOf Tryz.f19) (entry Tryz.f19.ntmps ((f_token_IsOption_c n).a.enc x.1) ((f_token_IsOption_c n).b.enc x.2)) (kfin (f_token_IsOption_e n) Tryz.f19 (f_token_IsOption_c n) (f_token_IsOption_c n).b.n) = (f_token_IsOption_c n).f x := by kernel_rfl
theorem f_token_IsOption_ok (X : Cx Tryz.prog K Gl) (n : Nat) : FOk Tryz.prog K Gl 19 (f_token_IsOption_c n) := func_ok (E := f_token_IsOption_e n) (fn := Tryz.f19) (cf := (f_token_IsOption_c n)) (os := []) X (tok _ _ _ _) rfl (f_token_IsOption_a X n) snil (by kernel_rfl) Tryz.func19 (by kernel_rfl) (f_token_IsOption_k n)
def f_token_IsMate  : ((Int × Unit) × Bool) × Unit × Unit :=
 (((0, ()), false), (), ())
def f_token_IsMate_c (n : Nat) : Cf := ⟨.nf, .e, [⟨.tu (.c (.t (.p (.i .i64) (.u)) []) (.t (.b) [])), .e, .e⟩], fun x => some (f_token_IsMate)⟩
def f_token_IsMate_e (n : Nat) : Env := en [] [] [] []
theorem f_token_IsMate_a (X : Cx Tryz.prog K Gl) (n : Nat) : FAll Tryz.prog K Gl [] := fnil
theorem f_token_IsMate_k (n : Nat) (x : (f_token_IsMate_c n).a.X × (f_token_IsMate_c n).b.X) : run (f_token_IsMate_e n) (bodyOf Tryz.f18) (entry Tryz.f18.ntmps ((f_token_IsMate_c n).a.enc x.1) ((f_token_IsMate_c n).b.enc x.2)) (kfin (f_token_IsMate_e n) Tryz.f18 (f_token_IsMate_c n) (f_token_IsMate_c n).b.n) = (f_token_IsMate_c n).f x := by kernel_rfl
theorem f_token_IsMate_ok (X : Cx Tryz.prog K Gl) (n : Nat) : FOk Tryz.prog K Gl 18 (f_token_IsMate_c n) := func_ok (E := f_token_IsMate_e n) (fn := Tryz.f18) (cf := (f_token_IsMate_c n)) (os := []) X (tok _ _ _ _) rfl (f_token_IsMate_a X n) snil (by kernel_rfl) Tryz.func18 (by kernel_rfl) (f_token_IsMate_k n)
def f_kakugyolaw22_plain  : Option ((Int × ByteArray × ByteArray × ByteArray × List Int × Unit × Int × Int × Unit) × Unit × Unit) :=
 Br (f_token_IsOption.1.2)
  (some ((2, f_token_Word_1.1, f_token_IsOption.1.1.1, f_token_IsOption.1.1.2.1, List.replicate 98 0, (), 0, 0, ()), (), ()))
  (Br (f_token_IsPosition.1.2)
   (some ((3, f_token_Word_1.1, (⟨#[]⟩ : ByteArray), (⟨#[]⟩ : ByteArray), f_token_IsPosition.1.1.1, f_token_IsPosition.1.1.2.1, 0, 0, ()), (), ()))
   (Br (f_token_IsGo.1.2)
    (some ((4, f_token_Word_1.1, (⟨#[]⟩ : ByteArray), (⟨#[]⟩ : ByteArray), List.replicate 98 0, (), f_token_IsGo.1.1.1, f_token_IsGo.1.1.2.1, ()), (), ()))
    (Br (f_token_IsMate.1.2)
     (some ((5, f_token_Word_1.1, (⟨#[]⟩ : ByteArray), (⟨#[]⟩ : ByteArray), List.replicate 98 0, (), 0, f_token_IsMate.1.1.1, ()), (), ()))
     (Br (!(seq f_token_Word_1.1 (⟨#[]⟩ : ByteArray)))
      (some ((1, f_token_Word_1.1, (⟨#[]⟩ : ByteArray), (⟨#[]⟩ : ByteArray), List.replicate 98 0, (), 0, 0, ()), (), ()))
      (some ((0, f_token_Word_1.1, (⟨#[]⟩ : ByteArray), (⟨#[]⟩ : ByteArray), List.replicate 98 0, (), 0, 0, ()), (), ()))))))
def f_kakugyolaw22_plain_c (n : Nat) : Cf := ⟨.nf, .e, [⟨.t (.p (.i .i64) (.p (.s) (.p (.s) (.p (.s) (.p (.a .i8 98) (.p (.r .s) (.p (.i .i64) (.p (.i .i64) (.u))))))))) [.ns], .e, .e⟩], fun x => f_kakugyolaw22_plain⟩
def f_kakugyolaw22_plain_e (n : Nat) : Env := en [(16, f_token_Word_1_c n), (19, f_token_IsOption_c n), (17, f_token_IsPosition_c n), (12, f_token_IsGo_c n), (18, f_token_IsMate_c n)] [(4, [1]), (8, [1]), (12, [1]), (16, [1])] [] []
theorem f_kakugyolaw22_plain_a (X : Cx Tryz.prog K Gl) (n : Nat) : FAll Tryz.prog K Gl [(16, f_token_Word_1_c n), (19, f_token_IsOption_c n), (17, f_token_IsPosition_c n), (12, f_token_IsGo_c n), (18, f_token_IsMate_c n)] := (fcons (f_token_Word_1_ok X n) (fcons (f_token_IsOption_ok X n) (fcons (f_token_IsPosition_ok X n) (fcons (f_token_IsGo_ok X n) (fcons (f_token_IsMate_ok X n) fnil)))))
theorem f_kakugyolaw22_plain_k (n : Nat) (x : (f_kakugyolaw22_plain_c n).a.X × (f_kakugyolaw22_plain_c n).b.X) : run (f_kakugyolaw22_plain_e n) (bodyOf Tryz.f15) (entry Tryz.f15.ntmps ((f_kakugyolaw22_plain_c n).a.enc x.1) ((f_kakugyolaw22_plain_c n).b.enc x.2)) (kfin (f_kakugyolaw22_plain_e n) Tryz.f15 (f_kakugyolaw22_plain_c n) (f_kakugyolaw22_plain_c n).b.n) = (f_kakugyolaw22_plain_c n).f x := by kernel_rfl
theorem f_kakugyolaw22_plain_ok (X : Cx Tryz.prog K Gl) (n : Nat) : FOk Tryz.prog K Gl 15 (f_kakugyolaw22_plain_c n) := func_ok (E := f_kakugyolaw22_plain_e n) (fn := Tryz.f15) (cf := (f_kakugyolaw22_plain_c n)) (os := []) X (tok _ _ _ _) rfl (f_kakugyolaw22_plain_a X n) snil (by kernel_rfl) Tryz.func15 (by kernel_rfl) (f_kakugyolaw22_plain_k n)
def f_kakugyoref10_Same_l0_s (n : Nat) (r : Int → Option (Unit × Unit)) (i1 : Int) : Option (Unit × Unit) :=
 Br (lt i1 0)
  (none)
  (some ((), ()))
def f_kakugyoref10_Same_l0_i (n : Nat) : Nat → Int → Option (Unit × Unit)
 | 0, _ => none
 | m + 1, i1 => f_kakugyoref10_Same_l0_s n (f_kakugyoref10_Same_l0_i n m) i1
def f_kakugyoref10_Same_l0 (n : Nat) := f_kakugyoref10_Same_l0_i n n
def f_kakugyoref10_Same (n : Nat)  : Option (Bool × Unit × Unit) :=
 ob (f_kakugyoref10_Same_l0 n 0) fun y3 =>
 some (true, (), ())
def f_kakugyoref10_Same_c (n : Nat) : Cf := ⟨.c (.t (.r .s) [.ns]) (.t (.r .s) [.ns]), .e, [⟨.t (.b) [], .e, .e⟩], fun x => f_kakugyoref10_Same n⟩
def f_kakugyoref10_Same_l0_c (n : Nat) : Cs := ⟨0, [], ⟨[0, 1, 5], .c (.t (.r .s) [.ns]) (.c (.t (.r .s) [.ns]) (.t (.i .i64) [])), .e⟩, [⟨0, ⟨[], .e, .e⟩⟩], fun v => f_kakugyoref10_Same_l0 n v.1.2.2⟩
def f_kakugyoref10_Same_e (n : Nat) : Env := en [] [] [] [(0, f_kakugyoref10_Same_l0_c n)]
theorem f_kakugyoref10_Same_a (X : Cx Tryz.prog K Gl) (n : Nat) : FAll Tryz.prog K Gl [] := fnil
theorem f_kakugyoref10_Same_l0_k (n : Nat) (p : Nat) (v : (f_kakugyoref10_Same_l0_c n).s.X) : run (f_kakugyoref10_Same_e n) (lbody 0 (bodyOf Tryz.f23)) ((f_kakugyoref10_Same_l0_c n).s.st Tryz.f23.ntmps v) (kloop 0 (f_kakugyoref10_Same_l0_c n) (fun v => f_kakugyoref10_Same_l0_i n p v.1.2.2)) = f_kakugyoref10_Same_l0_i n (p + 1) v.1.2.2 := by kernel_rfl
theorem f_kakugyoref10_Same_l0_o (X : Cx Tryz.prog K Gl) (n : Nat) : SO Tryz.prog K Gl Tryz.f23.ntmps 0 (.block 0 (.loop (lbody 0 (bodyOf Tryz.f23)))) (f_kakugyoref10_Same_l0_c n) := loop_ok (E := f_kakugyoref10_Same_e n) (os := []) (s := f_kakugyoref10_Same_l0_c n) (n := n) X (tok _ _ _ _) rfl (f_kakugyoref10_Same_a X n) snil (by kernel_rfl) rfl (fun p (v : (f_kakugyoref10_Same_l0_c n).s.X) => f_kakugyoref10_Same_l0_i n p v.1.2.2) (fun _ => rfl) (f_kakugyoref10_Same_l0_k n) (fun _ => rfl)
theorem f_kakugyoref10_Same_k (n : Nat) (x : (f_kakugyoref10_Same_c n).a.X × (f_kakugyoref10_Same_c n).b.X) : run (f_kakugyoref10_Same_e n) (bodyOf Tryz.f23) (entry Tryz.f23.ntmps ((f_kakugyoref10_Same_c n).a.enc x.1) ((f_kakugyoref10_Same_c n).b.enc x.2)) (kfin (f_kakugyoref10_Same_e n) Tryz.f23 (f_kakugyoref10_Same_c n) (f_kakugyoref10_Same_c n).b.n) = (f_kakugyoref10_Same_c n).f x := by kernel_rfl
theorem f_kakugyoref10_Same_ok (X : Cx Tryz.prog K Gl) (n : Nat) : FOk Tryz.prog K Gl 23 (f_kakugyoref10_Same_c n) := func_ok (E := f_kakugyoref10_Same_e n) (fn := Tryz.f23) (cf := (f_kakugyoref10_Same_c n)) (os := [(.block 0 (.loop (lbody 0 (bodyOf Tryz.f23))), f_kakugyoref10_Same_l0_c n)]) X (tok _ _ _ _) rfl (f_kakugyoref10_Same_a X n) (scons (f_kakugyoref10_Same_l0_o X n) snil) (by kernel_rfl) Tryz.func23 (by kernel_rfl) (f_kakugyoref10_Same_k n)
def f_kakugyolaw22_like (n : Nat) (a0 : Int × ByteArray × ByteArray × ByteArray × List Int × Unit × Int × Int × Unit) (bv1 : Int × ByteArray × ByteArray × ByteArray × List Int × Unit × Int × Int × Unit) : Option (Bool × Unit × Unit) :=
 Br (eq a0.1 bv1.1)
  (Br (seq a0.2.1 bv1.2.1)
   (Br (seq a0.2.2.1 bv1.2.2.1)
    (Br (seq a0.2.2.2.1 bv1.2.2.2.1)
     (Br (List.beq a0.2.2.2.2.1 bv1.2.2.2.2.1)
      (Br (eq a0.2.2.2.2.2.2.1 bv1.2.2.2.2.2.2.1)
       (Br (eq a0.2.2.2.2.2.2.2.1 bv1.2.2.2.2.2.2.2.1)
        (ob (f_kakugyoref10_Same n) fun y1 =>
        some (y1.1, (), ()))
        (some (false, (), ())))
       (some (false, (), ())))
      (some (false, (), ())))
     (some (false, (), ())))
    (some (false, (), ())))
   (some (false, (), ())))
  (some (false, (), ()))
def f_kakugyolaw22_like_c (n : Nat) : Cf := ⟨.c (.t (.p (.i .i64) (.p (.s) (.p (.s) (.p (.s) (.p (.a .i8 98) (.p (.r .s) (.p (.i .i64) (.p (.i .i64) (.u))))))))) [.ns]) (.t (.p (.i .i64) (.p (.s) (.p (.s) (.p (.s) (.p (.a .i8 98) (.p (.r .s) (.p (.i .i64) (.p (.i .i64) (.u))))))))) [.ns]), .e, [⟨.t (.b) [], .e, .e⟩], fun x => f_kakugyolaw22_like n x.1.1 x.1.2⟩
def f_kakugyolaw22_like_e (n : Nat) : Env := en [(23, f_kakugyoref10_Same_c n)] [] [] []
theorem f_kakugyolaw22_like_a (X : Cx Tryz.prog K Gl) (n : Nat) : FAll Tryz.prog K Gl [(23, f_kakugyoref10_Same_c n)] := (fcons (f_kakugyoref10_Same_ok X n) fnil)
theorem f_kakugyolaw22_like_k (n : Nat) (x : (f_kakugyolaw22_like_c n).a.X × (f_kakugyolaw22_like_c n).b.X) : run (f_kakugyolaw22_like_e n) (bodyOf Tryz.f14) (entry Tryz.f14.ntmps ((f_kakugyolaw22_like_c n).a.enc x.1) ((f_kakugyolaw22_like_c n).b.enc x.2)) (kfin (f_kakugyolaw22_like_e n) Tryz.f14 (f_kakugyolaw22_like_c n) (f_kakugyolaw22_like_c n).b.n) = (f_kakugyolaw22_like_c n).f x := by kernel_rfl
theorem f_kakugyolaw22_like_ok (X : Cx Tryz.prog K Gl) (n : Nat) : FOk Tryz.prog K Gl 14 (f_kakugyolaw22_like_c n) := func_ok (E := f_kakugyolaw22_like_e n) (fn := Tryz.f14) (cf := (f_kakugyolaw22_like_c n)) (os := []) X (tok _ _ _ _) rfl (f_kakugyolaw22_like_a X n) snil (by kernel_rfl) Tryz.func14 (by kernel_rfl) (f_kakugyolaw22_like_k n)
def f_token_Plain_word (c0 : ByteArray × Unit) : ByteArray × Unit × Unit :=
 (c0.1, (), ())
def f_token_Plain_word_c (n : Nat) : Cf := ⟨.t (.p (.s) (.u)) [], .e, [⟨.t (.s) [], .e, .e⟩], fun x => some (f_token_Plain_word x.1)⟩
def f_token_Plain_word_e (n : Nat) : Env := en [] [] [] []
theorem f_token_Plain_word_a (X : Cx Tryz.prog K Gl) (n : Nat) : FAll Tryz.prog K Gl [] := fnil
theorem f_token_Plain_word_k (n : Nat) (x : (f_token_Plain_word_c n).a.X × (f_token_Plain_word_c n).b.X) : run (f_token_Plain_word_e n) (bodyOf Tryz.f195) (entry Tryz.f195.ntmps ((f_token_Plain_word_c n).a.enc x.1) ((f_token_Plain_word_c n).b.enc x.2)) (kfin (f_token_Plain_word_e n) Tryz.f195 (f_token_Plain_word_c n) (f_token_Plain_word_c n).b.n) = (f_token_Plain_word_c n).f x := by kernel_rfl
theorem f_token_Plain_word_ok (X : Cx Tryz.prog K Gl) (n : Nat) : FOk Tryz.prog K Gl 195 (f_token_Plain_word_c n) := func_ok (E := f_token_Plain_word_e n) (fn := Tryz.f195) (cf := (f_token_Plain_word_c n)) (os := []) X (tok _ _ _ _) rfl (f_token_Plain_word_a X n) snil (by kernel_rfl) Tryz.func195 (by kernel_rfl) (f_token_Plain_word_k n)
def f_token_Word_2 (c0 : ByteArray × Unit) : ByteArray × Unit × Unit :=
 ((f_token_Plain_word c0).1, (), ())
def f_token_Word_2_c (n : Nat) : Cf := ⟨.fc 74 (.t (.p (.s) (.u)) []), .e, [⟨.t (.s) [], .e, .e⟩], fun x => some (f_token_Word_2 x.1)⟩
def f_token_Word_2_e (n : Nat) : Env := en [(195, f_token_Plain_word_c n)] [] [] []
theorem f_token_Word_2_a (X : Cx Tryz.prog K Gl) (n : Nat) : FAll Tryz.prog K Gl [(195, f_token_Plain_word_c n)] := (fcons (f_token_Plain_word_ok X n) fnil)
theorem f_token_Word_2_k (n : Nat) (x : (f_token_Word_2_c n).a.X × (f_token_Word_2_c n).b.X) : run (f_token_Word_2_e n) (bodyOf Tryz.f16) (entry Tryz.f16.ntmps ((f_token_Word_2_c n).a.enc x.1) ((f_token_Word_2_c n).b.enc x.2)) (kfin (f_token_Word_2_e n) Tryz.f16 (f_token_Word_2_c n) (f_token_Word_2_c n).b.n) = (f_token_Word_2_c n).f x := by kernel_rfl
theorem f_token_Word_2_ok (X : Cx Tryz.prog K Gl) (n : Nat) : FOk Tryz.prog K Gl 16 (f_token_Word_2_c n) := func_ok (E := f_token_Word_2_e n) (fn := Tryz.f16) (cf := (f_token_Word_2_c n)) (os := []) X (tok _ _ _ _) rfl (f_token_Word_2_a X n) snil (by kernel_rfl) Tryz.func16 (by kernel_rfl) (f_token_Word_2_k n)
def f_token_IsOption_1 (c0 : ByteArray × Unit) : ((ByteArray × ByteArray × Unit) × Bool) × Unit × Unit :=
 ((((⟨#[]⟩ : ByteArray), (⟨#[]⟩ : ByteArray), ()), false), (), ())
def f_token_IsOption_1_c (n : Nat) : Cf := ⟨.fc 74 (.t (.p (.s) (.u)) []), .e, [⟨.tu (.c (.t (.p (.s) (.p (.s) (.u))) []) (.t (.b) [])), .e, .e⟩], fun x => some (f_token_IsOption_1 x.1)⟩
def f_token_IsOption_1_e (n : Nat) : Env := en [] [] [] []
theorem f_token_IsOption_1_a (X : Cx Tryz.prog K Gl) (n : Nat) : FAll Tryz.prog K Gl [] := fnil
theorem f_token_IsOption_1_k (n : Nat) (x : (f_token_IsOption_1_c n).a.X × (f_token_IsOption_1_c n).b.X) : run (f_token_IsOption_1_e n) (bodyOf Tryz.f19) (entry Tryz.f19.ntmps ((f_token_IsOption_1_c n).a.enc x.1) ((f_token_IsOption_1_c n).b.enc x.2)) (kfin (f_token_IsOption_1_e n) Tryz.f19 (f_token_IsOption_1_c n) (f_token_IsOption_1_c n).b.n) = (f_token_IsOption_1_c n).f x := by kernel_rfl
theorem f_token_IsOption_1_ok (X : Cx Tryz.prog K Gl) (n : Nat) : FOk Tryz.prog K Gl 19 (f_token_IsOption_1_c n) := func_ok (E := f_token_IsOption_1_e n) (fn := Tryz.f19) (cf := (f_token_IsOption_1_c n)) (os := []) X (tok _ _ _ _) rfl (f_token_IsOption_1_a X n) snil (by kernel_rfl) Tryz.func19 (by kernel_rfl) (f_token_IsOption_1_k n)
def f_token_IsMate_1 (c0 : ByteArray × Unit) : ((Int × Unit) × Bool) × Unit × Unit :=
 (((0, ()), false), (), ())
def f_token_IsMate_1_c (n : Nat) : Cf := ⟨.fc 74 (.t (.p (.s) (.u)) []), .e, [⟨.tu (.c (.t (.p (.i .i64) (.u)) []) (.t (.b) [])), .e, .e⟩], fun x => some (f_token_IsMate_1 x.1)⟩
def f_token_IsMate_1_e (n : Nat) : Env := en [] [] [] []
theorem f_token_IsMate_1_a (X : Cx Tryz.prog K Gl) (n : Nat) : FAll Tryz.prog K Gl [] := fnil
theorem f_token_IsMate_1_k (n : Nat) (x : (f_token_IsMate_1_c n).a.X × (f_token_IsMate_1_c n).b.X) : run (f_token_IsMate_1_e n) (bodyOf Tryz.f18) (entry Tryz.f18.ntmps ((f_token_IsMate_1_c n).a.enc x.1) ((f_token_IsMate_1_c n).b.enc x.2)) (kfin (f_token_IsMate_1_e n) Tryz.f18 (f_token_IsMate_1_c n) (f_token_IsMate_1_c n).b.n) = (f_token_IsMate_1_c n).f x := by kernel_rfl
theorem f_token_IsMate_1_ok (X : Cx Tryz.prog K Gl) (n : Nat) : FOk Tryz.prog K Gl 18 (f_token_IsMate_1_c n) := func_ok (E := f_token_IsMate_1_e n) (fn := Tryz.f18) (cf := (f_token_IsMate_1_c n)) (os := []) X (tok _ _ _ _) rfl (f_token_IsMate_1_a X n) snil (by kernel_rfl) Tryz.func18 (by kernel_rfl) (f_token_IsMate_1_k n)
def f_kakugyolaw22_plain_1 (c0 : ByteArray × Unit) : Option ((Int × ByteArray × ByteArray × ByteArray × List Int × Unit × Int × Int × Unit) × Unit × Unit) :=
 Br ((f_token_IsOption_1 c0).1.2)
  (some ((2, (f_token_Word_2 c0).1, (f_token_IsOption_1 c0).1.1.1, (f_token_IsOption_1 c0).1.1.2.1, List.replicate 98 0, (), 0, 0, ()), (), ()))
  (Br ((f_token_IsPosition_1 c0).1.2)
   (some ((3, (f_token_Word_2 c0).1, (⟨#[]⟩ : ByteArray), (⟨#[]⟩ : ByteArray), (f_token_IsPosition_1 c0).1.1.1, (f_token_IsPosition_1 c0).1.1.2.1, 0, 0, ()), (), ()))
   (Br ((f_token_IsGo_1 c0).1.2)
    (some ((4, (f_token_Word_2 c0).1, (⟨#[]⟩ : ByteArray), (⟨#[]⟩ : ByteArray), List.replicate 98 0, (), (f_token_IsGo_1 c0).1.1.1, (f_token_IsGo_1 c0).1.1.2.1, ()), (), ()))
    (Br ((f_token_IsMate_1 c0).1.2)
     (some ((5, (f_token_Word_2 c0).1, (⟨#[]⟩ : ByteArray), (⟨#[]⟩ : ByteArray), List.replicate 98 0, (), 0, (f_token_IsMate_1 c0).1.1.1, ()), (), ()))
     (Br (!(seq (f_token_Word_2 c0).1 (⟨#[]⟩ : ByteArray)))
      (some ((1, (f_token_Word_2 c0).1, (⟨#[]⟩ : ByteArray), (⟨#[]⟩ : ByteArray), List.replicate 98 0, (), 0, 0, ()), (), ()))
      (some ((0, (f_token_Word_2 c0).1, (⟨#[]⟩ : ByteArray), (⟨#[]⟩ : ByteArray), List.replicate 98 0, (), 0, 0, ()), (), ()))))))
def f_kakugyolaw22_plain_1_c (n : Nat) : Cf := ⟨.fc 74 (.t (.p (.s) (.u)) []), .e, [⟨.t (.p (.i .i64) (.p (.s) (.p (.s) (.p (.s) (.p (.a .i8 98) (.p (.r .s) (.p (.i .i64) (.p (.i .i64) (.u))))))))) [.ns], .e, .e⟩], fun x => f_kakugyolaw22_plain_1 x.1⟩
def f_kakugyolaw22_plain_1_e (n : Nat) : Env := en [(16, f_token_Word_2_c n), (19, f_token_IsOption_1_c n), (17, f_token_IsPosition_1_c n), (12, f_token_IsGo_1_c n), (18, f_token_IsMate_1_c n)] [(4, [1]), (8, [1]), (12, [1]), (16, [1])] [] []
theorem f_kakugyolaw22_plain_1_a (X : Cx Tryz.prog K Gl) (n : Nat) : FAll Tryz.prog K Gl [(16, f_token_Word_2_c n), (19, f_token_IsOption_1_c n), (17, f_token_IsPosition_1_c n), (12, f_token_IsGo_1_c n), (18, f_token_IsMate_1_c n)] := (fcons (f_token_Word_2_ok X n) (fcons (f_token_IsOption_1_ok X n) (fcons (f_token_IsPosition_1_ok X n) (fcons (f_token_IsGo_1_ok X n) (fcons (f_token_IsMate_1_ok X n) fnil)))))
theorem f_kakugyolaw22_plain_1_k (n : Nat) (x : (f_kakugyolaw22_plain_1_c n).a.X × (f_kakugyolaw22_plain_1_c n).b.X) : run (f_kakugyolaw22_plain_1_e n) (bodyOf Tryz.f15) (entry Tryz.f15.ntmps ((f_kakugyolaw22_plain_1_c n).a.enc x.1) ((f_kakugyolaw22_plain_1_c n).b.enc x.2)) (kfin (f_kakugyolaw22_plain_1_e n) Tryz.f15 (f_kakugyolaw22_plain_1_c n) (f_kakugyolaw22_plain_1_c n).b.n) = (f_kakugyolaw22_plain_1_c n).f x := by kernel_rfl
theorem f_kakugyolaw22_plain_1_ok (X : Cx Tryz.prog K Gl) (n : Nat) : FOk Tryz.prog K Gl 15 (f_kakugyolaw22_plain_1_c n) := func_ok (E := f_kakugyolaw22_plain_1_e n) (fn := Tryz.f15) (cf := (f_kakugyolaw22_plain_1_c n)) (os := []) X (tok _ _ _ _) rfl (f_kakugyolaw22_plain_1_a X n) snil (by kernel_rfl) Tryz.func15 (by kernel_rfl) (f_kakugyolaw22_plain_1_k n)
def f_token_Option_word (c0 : ByteArray × ByteArray × Unit) : ByteArray × Unit × Unit :=
 ((⟨#[115, 101, 116, 111, 112, 116, 105, 111, 110]⟩ : ByteArray), (), ())
def f_token_Option_word_c (n : Nat) : Cf := ⟨.t (.p (.s) (.p (.s) (.u))) [], .e, [⟨.t (.s) [], .e, .e⟩], fun x => some (f_token_Option_word x.1)⟩
def f_token_Option_word_e (n : Nat) : Env := en [] [] [] []
theorem f_token_Option_word_a (X : Cx Tryz.prog K Gl) (n : Nat) : FAll Tryz.prog K Gl [] := fnil
theorem f_token_Option_word_k (n : Nat) (x : (f_token_Option_word_c n).a.X × (f_token_Option_word_c n).b.X) : run (f_token_Option_word_e n) (bodyOf Tryz.f194) (entry Tryz.f194.ntmps ((f_token_Option_word_c n).a.enc x.1) ((f_token_Option_word_c n).b.enc x.2)) (kfin (f_token_Option_word_e n) Tryz.f194 (f_token_Option_word_c n) (f_token_Option_word_c n).b.n) = (f_token_Option_word_c n).f x := by kernel_rfl
theorem f_token_Option_word_ok (X : Cx Tryz.prog K Gl) (n : Nat) : FOk Tryz.prog K Gl 194 (f_token_Option_word_c n) := func_ok (E := f_token_Option_word_e n) (fn := Tryz.f194) (cf := (f_token_Option_word_c n)) (os := []) X (tok _ _ _ _) rfl (f_token_Option_word_a X n) snil (by kernel_rfl) Tryz.func194 (by kernel_rfl) (f_token_Option_word_k n)
def f_token_Word_3 (c0 : ByteArray × ByteArray × Unit) : ByteArray × Unit × Unit :=
 ((f_token_Option_word c0).1, (), ())
def f_token_Word_3_c (n : Nat) : Cf := ⟨.fc 62 (.t (.p (.s) (.p (.s) (.u))) []), .e, [⟨.t (.s) [], .e, .e⟩], fun x => some (f_token_Word_3 x.1)⟩
def f_token_Word_3_e (n : Nat) : Env := en [(194, f_token_Option_word_c n)] [] [] []
theorem f_token_Word_3_a (X : Cx Tryz.prog K Gl) (n : Nat) : FAll Tryz.prog K Gl [(194, f_token_Option_word_c n)] := (fcons (f_token_Option_word_ok X n) fnil)
theorem f_token_Word_3_k (n : Nat) (x : (f_token_Word_3_c n).a.X × (f_token_Word_3_c n).b.X) : run (f_token_Word_3_e n) (bodyOf Tryz.f16) (entry Tryz.f16.ntmps ((f_token_Word_3_c n).a.enc x.1) ((f_token_Word_3_c n).b.enc x.2)) (kfin (f_token_Word_3_e n) Tryz.f16 (f_token_Word_3_c n) (f_token_Word_3_c n).b.n) = (f_token_Word_3_c n).f x := by kernel_rfl
theorem f_token_Word_3_ok (X : Cx Tryz.prog K Gl) (n : Nat) : FOk Tryz.prog K Gl 16 (f_token_Word_3_c n) := func_ok (E := f_token_Word_3_e n) (fn := Tryz.f16) (cf := (f_token_Word_3_c n)) (os := []) X (tok _ _ _ _) rfl (f_token_Word_3_a X n) snil (by kernel_rfl) Tryz.func16 (by kernel_rfl) (f_token_Word_3_k n)
def f_token_IsOption_2 (c0 : ByteArray × ByteArray × Unit) : ((ByteArray × ByteArray × Unit) × Bool) × Unit × Unit :=
 ((c0, true), (), ())
def f_token_IsOption_2_c (n : Nat) : Cf := ⟨.fc 62 (.t (.p (.s) (.p (.s) (.u))) []), .e, [⟨.tu (.c (.t (.p (.s) (.p (.s) (.u))) []) (.t (.b) [])), .e, .e⟩], fun x => some (f_token_IsOption_2 x.1)⟩
def f_token_IsOption_2_e (n : Nat) : Env := en [] [] [] []
theorem f_token_IsOption_2_a (X : Cx Tryz.prog K Gl) (n : Nat) : FAll Tryz.prog K Gl [] := fnil
theorem f_token_IsOption_2_k (n : Nat) (x : (f_token_IsOption_2_c n).a.X × (f_token_IsOption_2_c n).b.X) : run (f_token_IsOption_2_e n) (bodyOf Tryz.f19) (entry Tryz.f19.ntmps ((f_token_IsOption_2_c n).a.enc x.1) ((f_token_IsOption_2_c n).b.enc x.2)) (kfin (f_token_IsOption_2_e n) Tryz.f19 (f_token_IsOption_2_c n) (f_token_IsOption_2_c n).b.n) = (f_token_IsOption_2_c n).f x := by kernel_rfl
theorem f_token_IsOption_2_ok (X : Cx Tryz.prog K Gl) (n : Nat) : FOk Tryz.prog K Gl 19 (f_token_IsOption_2_c n) := func_ok (E := f_token_IsOption_2_e n) (fn := Tryz.f19) (cf := (f_token_IsOption_2_c n)) (os := []) X (tok _ _ _ _) rfl (f_token_IsOption_2_a X n) snil (by kernel_rfl) Tryz.func19 (by kernel_rfl) (f_token_IsOption_2_k n)
def f_token_IsMate_2 (c0 : ByteArray × ByteArray × Unit) : ((Int × Unit) × Bool) × Unit × Unit :=
 (((0, ()), false), (), ())
def f_token_IsMate_2_c (n : Nat) : Cf := ⟨.fc 62 (.t (.p (.s) (.p (.s) (.u))) []), .e, [⟨.tu (.c (.t (.p (.i .i64) (.u)) []) (.t (.b) [])), .e, .e⟩], fun x => some (f_token_IsMate_2 x.1)⟩
def f_token_IsMate_2_e (n : Nat) : Env := en [] [] [] []
theorem f_token_IsMate_2_a (X : Cx Tryz.prog K Gl) (n : Nat) : FAll Tryz.prog K Gl [] := fnil
theorem f_token_IsMate_2_k (n : Nat) (x : (f_token_IsMate_2_c n).a.X × (f_token_IsMate_2_c n).b.X) : run (f_token_IsMate_2_e n) (bodyOf Tryz.f18) (entry Tryz.f18.ntmps ((f_token_IsMate_2_c n).a.enc x.1) ((f_token_IsMate_2_c n).b.enc x.2)) (kfin (f_token_IsMate_2_e n) Tryz.f18 (f_token_IsMate_2_c n) (f_token_IsMate_2_c n).b.n) = (f_token_IsMate_2_c n).f x := by kernel_rfl
theorem f_token_IsMate_2_ok (X : Cx Tryz.prog K Gl) (n : Nat) : FOk Tryz.prog K Gl 18 (f_token_IsMate_2_c n) := func_ok (E := f_token_IsMate_2_e n) (fn := Tryz.f18) (cf := (f_token_IsMate_2_c n)) (os := []) X (tok _ _ _ _) rfl (f_token_IsMate_2_a X n) snil (by kernel_rfl) Tryz.func18 (by kernel_rfl) (f_token_IsMate_2_k n)
end Go.AM.T
