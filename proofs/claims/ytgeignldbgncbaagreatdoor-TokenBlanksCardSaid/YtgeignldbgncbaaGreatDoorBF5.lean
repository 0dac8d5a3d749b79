/- What the functions compute, and that they do. -/
import Derived.Test.YtgeignldbgncbaaGreatDoorBF3
import Derived.Test.YtgeignldbgncbaaGreatDoorBF4
import Derived.Test.YtgeignldbgncbaaGreatDoorKL
set_option maxRecDepth 1000000
set_option linter.unusedVariables false
namespace Go.AM.T
open Go Go.AM Go.Proofs
def f_kakugyolaw22_plain_2 (c0 : ByteArray × ByteArray × Unit) : Option ((Int × ByteArray × ByteArray × ByteArray × List Int × Unit × Int × Int × Unit) × Unit × Unit) :=
 Br ((f_token_IsOption_2 c0).1.2)
  (some ((2, (f_token_Word_3 c0).1, (f_token_IsOption_2 c0).1.1.1, (f_token_IsOption_2 c0).1.1.2.1, List.replicate 98 0, (), 0, 0, ()), (), ()))
  (Br ((f_token_IsPosition_2 c0).1.2)
   (some ((3, (f_token_Word_3 c0).1, (⟨#[]⟩ : ByteArray), (⟨#[]⟩ : ByteArray), (f_token_IsPosition_2 c0).1.1.1, (f_token_IsPosition_2 c0).1.1.2.1, 0, 0, ()), (), ()))
   (Br ((f_token_IsGo_2 c0).1.2)
    (some ((4, (f_token_Word_3 c0).1, (⟨#[]⟩ : ByteArray), (⟨#[]⟩ : ByteArray), List.replicate 98 0, (), (f_token_IsGo_2 c0).1.1.1, (f_token_IsGo_2 c0).1.1.2.1, ()), (), ()))
    (Br ((f_token_IsMate_2 c0).1.2)
     (some ((5, (f_token_Word_3 c0).1, (⟨#[]⟩ : ByteArray), (⟨#[]⟩ : ByteArray), List.replicate 98 0, (), 0, (f_token_IsMate_2 c0).1.1.1, ()), (), ()))
     (Br (!(seq (f_token_Word_3 c0).1 (⟨#[]⟩ : ByteArray)))
      (some ((1, (f_token_Word_3 c0).1, (⟨#[]⟩ : ByteArray), (⟨#[]⟩ : ByteArray), List.replicate 98 0, (), 0, 0, ()), (), ()))
      (some ((0, (f_token_Word_3 c0).1, (⟨#[]⟩ : ByteArray), (⟨#[]⟩ : ByteArray), List.replicate 98 0, (), 0, 0, ()), (), ()))))))
def f_kakugyolaw22_plain_2_c (n : Nat) : Cf := ⟨.fc 62 (.t (.p (.s) (.p (.s) (.u))) []), .e, [⟨.t (.p (.i .i64) (.p (.s) (.p (.s) (.p (.s) (.p (.a .i8 98) (.p (.r .s) (.p (.i .i64) (.p (.i .i64) (.u))))))))) [.ns], .e, .e⟩], fun x => f_kakugyolaw22_plain_2 x.1⟩
def f_kakugyolaw22_plain_2_e (n : Nat) : Env := en [(16, f_token_Word_3_c n), (19, f_token_IsOption_2_c n), (17, f_token_IsPosition_2_c n), (12, f_token_IsGo_2_c n), (18, f_token_IsMate_2_c n)] [(4, [1]), (8, [1]), (12, [1]), (16, [1])] [] []
theorem f_kakugyolaw22_plain_2_a (X : Cx Tryz.prog K Gl) (n : Nat) : FAll Tryz.prog K Gl [(16, f_token_Word_3_c n), (19, f_token_IsOption_2_c n), (17, f_token_IsPosition_2_c n), (12, f_token_IsGo_2_c n), (18, f_token_IsMate_2_c n)] := (fcons (f_token_Word_3_ok X n) (fcons (f_token_IsOption_2_ok X n) (fcons (f_token_IsPosition_2_ok X n) (fcons (f_token_IsGo_2_ok X n) (fcons (f_token_IsMate_2_ok X n) fnil)))))
theorem f_kakugyolaw22_plain_2_k (n : Nat) (x : (f_kakugyolaw22_plain_2_c n).a.X × (f_kakugyolaw22_plain_2_c n).b.X) : run (f_kakugyolaw22_plain_2_e n) (bodyOf Tryz.f15) (entry Tryz.f15.ntmps ((f_kakugyolaw22_plain_2_c n).a.enc x.1) ((f_kakugyolaw22_plain_2_c n).b.enc x.2)) (kfin (f_kakugyolaw22_plain_2_e n) Tryz.f15 (f_kakugyolaw22_plain_2_c n) (f_kakugyolaw22_plain_2_c n).b.n) = (f_kakugyolaw22_plain_2_c n).f x := by kernel_rfl
theorem f_kakugyolaw22_plain_2_ok (X : Cx Tryz.prog K Gl) (n : Nat) : FOk Tryz.prog K Gl 15 (f_kakugyolaw22_plain_2_c n) := func_ok (E := f_kakugyolaw22_plain_2_e n) (fn := Tryz.f15) (cf := (f_kakugyolaw22_plain_2_c n)) (os := []) X (tok _ _ _ _) rfl (f_kakugyolaw22_plain_2_a X n) snil (by kernel_rfl) Tryz.func15 (by kernel_rfl) (f_kakugyolaw22_plain_2_k n)
def f_token_Position_word_1 (c0 : List Int × Unit × Unit) : ByteArray × Unit × Unit :=
 ((⟨#[112, 111, 115, 105, 116, 105, 111, 110]⟩ : ByteArray), (), ())
def f_token_Position_word_1_c (n : Nat) : Cf := ⟨.t (.p (.a .i8 98) (.p (.r .s) (.u))) [.ns], .e, [⟨.t (.s) [], .e, .e⟩], fun x => some (f_token_Position_word_1 x.1)⟩
def f_token_Position_word_1_e (n : Nat) : Env := en [] [] [] []
theorem f_token_Position_word_1_a (X : Cx Tryz.prog K Gl) (n : Nat) : FAll Tryz.prog K Gl [] := fnil
theorem f_token_Position_word_1_k (n : Nat) (x : (f_token_Position_word_1_c n).a.X × (f_token_Position_word_1_c n).b.X) : run (f_token_Position_word_1_e n) (bodyOf Tryz.f192) (entry Tryz.f192.ntmps ((f_token_Position_word_1_c n).a.enc x.1) ((f_token_Position_word_1_c n).b.enc x.2)) (kfin (f_token_Position_word_1_e n) Tryz.f192 (f_token_Position_word_1_c n) (f_token_Position_word_1_c n).b.n) = (f_token_Position_word_1_c n).f x := by kernel_rfl
theorem f_token_Position_word_1_ok (X : Cx Tryz.prog K Gl) (n : Nat) : FOk Tryz.prog K Gl 192 (f_token_Position_word_1_c n) := func_ok (E := f_token_Position_word_1_e n) (fn := Tryz.f192) (cf := (f_token_Position_word_1_c n)) (os := []) X (tok _ _ _ _) rfl (f_token_Position_word_1_a X n) snil (by kernel_rfl) Tryz.func192 (by kernel_rfl) (f_token_Position_word_1_k n)
def f_token_Word_4 (c0 : List Int × Unit × Unit) : ByteArray × Unit × Unit :=
 ((f_token_Position_word_1 c0).1, (), ())
def f_token_Word_4_c (n : Nat) : Cf := ⟨.fc 54 (.t (.p (.a .i8 98) (.p (.r .s) (.u))) [.ns]), .e, [⟨.t (.s) [], .e, .e⟩], fun x => some (f_token_Word_4 x.1)⟩
def f_token_Word_4_e (n : Nat) : Env := en [(192, f_token_Position_word_1_c n)] [] [] []
theorem f_token_Word_4_a (X : Cx Tryz.prog K Gl) (n : Nat) : FAll Tryz.prog K Gl [(192, f_token_Position_word_1_c n)] := (fcons (f_token_Position_word_1_ok X n) fnil)
theorem f_token_Word_4_k (n : Nat) (x : (f_token_Word_4_c n).a.X × (f_token_Word_4_c n).b.X) : run (f_token_Word_4_e n) (bodyOf Tryz.f16) (entry Tryz.f16.ntmps ((f_token_Word_4_c n).a.enc x.1) ((f_token_Word_4_c n).b.enc x.2)) (kfin (f_token_Word_4_e n) Tryz.f16 (f_token_Word_4_c n) (f_token_Word_4_c n).b.n) = (f_token_Word_4_c n).f x := by kernel_rfl
theorem f_token_Word_4_ok (X : Cx Tryz.prog K Gl) (n : Nat) : FOk Tryz.prog K Gl 16 (f_token_Word_4_c n) := func_ok (E := f_token_Word_4_e n) (fn := Tryz.f16) (cf := (f_token_Word_4_c n)) (os := []) X (tok _ _ _ _) rfl (f_token_Word_4_a X n) snil (by kernel_rfl) Tryz.func16 (by kernel_rfl) (f_token_Word_4_k n)
def f_token_IsOption_3 (c0 : List Int × Unit × Unit) : ((ByteArray × ByteArray × Unit) × Bool) × Unit × Unit :=
 ((((⟨#[]⟩ : ByteArray), (⟨#[]⟩ : ByteArray), ()), false), (), ())
def f_token_IsOption_3_c (n : Nat) : Cf := ⟨.fc 54 (.t (.p (.a .i8 98) (.p (.r .s) (.u))) [.ns]), .e, [⟨.tu (.c (.t (.p (.s) (.p (.s) (.u))) []) (.t (.b) [])), .e, .e⟩], fun x => some (f_token_IsOption_3 x.1)⟩
def f_token_IsOption_3_e (n : Nat) : Env := en [] [] [] []
theorem f_token_IsOption_3_a (X : Cx Tryz.prog K Gl) (n : Nat) : FAll Tryz.prog K Gl [] := fnil
theorem f_token_IsOption_3_k (n : Nat) (x : (f_token_IsOption_3_c n).a.X × (f_token_IsOption_3_c n).b.X) : run (f_token_IsOption_3_e n) (bodyOf Tryz.f19) (entry Tryz.f19.ntmps ((f_token_IsOption_3_c n).a.enc x.1) ((f_token_IsOption_3_c n).b.enc x.2)) (kfin (f_token_IsOption_3_e n) Tryz.f19 (f_token_IsOption_3_c n) (f_token_IsOption_3_c n).b.n) = (f_token_IsOption_3_c n).f x := by kernel_rfl
theorem f_token_IsOption_3_ok (X : Cx Tryz.prog K Gl) (n : Nat) : FOk Tryz.prog K Gl 19 (f_token_IsOption_3_c n) := func_ok (E := f_token_IsOption_3_e n) (fn := Tryz.f19) (cf := (f_token_IsOption_3_c n)) (os := []) X (tok _ _ _ _) rfl (f_token_IsOption_3_a X n) snil (by kernel_rfl) Tryz.func19 (by kernel_rfl) (f_token_IsOption_3_k n)
def f_token_IsMate_3 (c0 : List Int × Unit × Unit) : ((Int × Unit) × Bool) × Unit × Unit :=
 (((0, ()), false), (), ())
def f_token_IsMate_3_c (n : Nat) : Cf := ⟨.fc 54 (.t (.p (.a .i8 98) (.p (.r .s) (.u))) [.ns]), .e, [⟨.tu (.c (.t (.p (.i .i64) (.u)) []) (.t (.b) [])), .e, .e⟩], fun x => some (f_token_IsMate_3 x.1)⟩
def f_token_IsMate_3_e (n : Nat) : Env := en [] [] [] []
theorem f_token_IsMate_3_a (X : Cx Tryz.prog K Gl) (n : Nat) : FAll Tryz.prog K Gl [] := fnil
theorem f_token_IsMate_3_k (n : Nat) (x : (f_token_IsMate_3_c n).a.X × (f_token_IsMate_3_c n).b.X) : run (f_token_IsMate_3_e n) (bodyOf Tryz.f18) (entry Tryz.f18.ntmps ((f_token_IsMate_3_c n).a.enc x.1) ((f_token_IsMate_3_c n).b.enc x.2)) (kfin (f_token_IsMate_3_e n) Tryz.f18 (f_token_IsMate_3_c n) (f_token_IsMate_3_c n).b.n) = (f_token_IsMate_3_c n).f x := by kernel_rfl
theorem f_token_IsMate_3_ok (X : Cx Tryz.prog K Gl) (n : Nat) : FOk Tryz.prog K Gl 18 (f_token_IsMate_3_c n) := func_ok (E := f_token_IsMate_3_e n) (fn := Tryz.f18) (cf := (f_token_IsMate_3_c n)) (os := []) X (tok _ _ _ _) rfl (f_token_IsMate_3_a X n) snil (by kernel_rfl) Tryz.func18 (by kernel_rfl) (f_token_IsMate_3_k n)
def f_kakugyolaw22_plain_3 (c0 : List Int × Unit × Unit) : Option ((Int × ByteArray × ByteArray × ByteArray × List Int × Unit × Int × Int × Unit) × Unit × Unit) :=
 Br ((f_token_IsOption_3 c0).1.2)
  (some ((2, (f_token_Word_4 c0).1, (f_token_IsOption_3 c0).1.1.1, (f_token_IsOption_3 c0).1.1.2.1, List.replicate 98 0, (), 0, 0, ()), (), ()))
  (Br ((f_token_IsPosition_3 c0).1.2)
   (some ((3, (f_token_Word_4 c0).1, (⟨#[]⟩ : ByteArray), (⟨#[]⟩ : ByteArray), (f_token_IsPosition_3 c0).1.1.1, (f_token_IsPosition_3 c0).1.1.2.1, 0, 0, ()), (), ()))
   (Br ((f_token_IsGo_3 c0).1.2)
    (some ((4, (f_token_Word_4 c0).1, (⟨#[]⟩ : ByteArray), (⟨#[]⟩ : ByteArray), List.replicate 98 0, (), (f_token_IsGo_3 c0).1.1.1, (f_token_IsGo_3 c0).1.1.2.1, ()), (), ()))
    (Br ((f_token_IsMate_3 c0).1.2)
     (some ((5, (f_token_Word_4 c0).1, (⟨#[]⟩ : ByteArray), (⟨#[]⟩ : ByteArray), List.replicate 98 0, (), 0, (f_token_IsMate_3 c0).1.1.1, ()), (), ()))
     (Br (!(seq (f_token_Word_4 c0).1 (⟨#[]⟩ : ByteArray)))
      (some ((1, (f_token_Word_4 c0).1, (⟨#[]⟩ : ByteArray), (⟨#[]⟩ : ByteArray), List.replicate 98 0, (), 0, 0, ()), (), ()))
      (some ((0, (f_token_Word_4 c0).1, (⟨#[]⟩ : ByteArray), (⟨#[]⟩ : ByteArray), List.replicate 98 0, (), 0, 0, ()), (), ()))))))
def f_kakugyolaw22_plain_3_c (n : Nat) : Cf := ⟨.fc 54 (.t (.p (.a .i8 98) (.p (.r .s) (.u))) [.ns]), .e, [⟨.t (.p (.i .i64) (.p (.s) (.p (.s) (.p (.s) (.p (.a .i8 98) (.p (.r .s) (.p (.i .i64) (.p (.i .i64) (.u))))))))) [.ns], .e, .e⟩], fun x => f_kakugyolaw22_plain_3 x.1⟩
def f_kakugyolaw22_plain_3_e (n : Nat) : Env := en [(16, f_token_Word_4_c n), (19, f_token_IsOption_3_c n), (17, f_token_IsPosition_3_c n), (12, f_token_IsGo_3_c n), (18, f_token_IsMate_3_c n)] [(4, [1]), (8, [1]), (12, [1]), (16, [1])] [] []
theorem f_kakugyolaw22_plain_3_a (X : Cx Tryz.prog K Gl) (n : Nat) : FAll Tryz.prog K Gl [(16, f_token_Word_4_c n), (19, f_token_IsOption_3_c n), (17, f_token_IsPosition_3_c n), (12, f_token_IsGo_3_c n), (18, f_token_IsMate_3_c n)] := (fcons (f_token_Word_4_ok X n) (fcons (f_token_IsOption_3_ok X n) (fcons (f_token_IsPosition_3_ok X n) (fcons (f_token_IsGo_3_ok X n) (fcons (f_token_IsMate_3_ok X n) fnil)))))
theorem f_kakugyolaw22_plain_3_k (n : Nat) (x : (f_kakugyolaw22_plain_3_c n).a.X × (f_kakugyolaw22_plain_3_c n).b.X) : run (f_kakugyolaw22_plain_3_e n) (bodyOf Tryz.f15) (entry Tryz.f15.ntmps ((f_kakugyolaw22_plain_3_c n).a.enc x.1) ((f_kakugyolaw22_plain_3_c n).b.enc x.2)) (kfin (f_kakugyolaw22_plain_3_e n) Tryz.f15 (f_kakugyolaw22_plain_3_c n) (f_kakugyolaw22_plain_3_c n).b.n) = (f_kakugyolaw22_plain_3_c n).f x := by kernel_rfl
theorem f_kakugyolaw22_plain_3_ok (X : Cx Tryz.prog K Gl) (n : Nat) : FOk Tryz.prog K Gl 15 (f_kakugyolaw22_plain_3_c n) := func_ok (E := f_kakugyolaw22_plain_3_e n) (fn := Tryz.f15) (cf := (f_kakugyolaw22_plain_3_c n)) (os := []) X (tok _ _ _ _) rfl (f_kakugyolaw22_plain_3_a X n) snil (by kernel_rfl) Tryz.func15 (by kernel_rfl) (f_kakugyolaw22_plain_3_k n)
def f_token_IsOption_4 (c0 : List Int × Unit × Unit) (b0 : List (Int × Int × Int × Bool × Unit)) : ((ByteArray × ByteArray × Unit) × Bool) × (List (Int × Int × Int × Bool × Unit)) × Unit :=
 ((((⟨#[]⟩ : ByteArray), (⟨#[]⟩ : ByteArray), ()), false), b0, ())
def f_token_IsOption_4_c (n : Nat) : Cf := ⟨.fc 54 (.t (.p (.a .i8 98) (.p (.r .s) (.u))) [.w 0]), .w 82 (.p (.i .i64) (.p (.i .i64) (.p (.i .i64) (.p (.b) (.u))))) true, [⟨.tu (.c (.t (.p (.s) (.p (.s) (.u))) []) (.t (.b) [])), .w 82 (.p (.i .i64) (.p (.i .i64) (.p (.i .i64) (.p (.b) (.u))))) true, .e⟩], fun x => some (f_token_IsOption_4 x.1 x.2)⟩
def f_token_IsOption_4_e (n : Nat) : Env := en [] [] [] []
theorem f_token_IsOption_4_a (X : Cx Tryz.prog K Gl) (n : Nat) : FAll Tryz.prog K Gl [] := fnil
theorem f_token_IsOption_4_k (n : Nat) (x : (f_token_IsOption_4_c n).a.X × (f_token_IsOption_4_c n).b.X) : run (f_token_IsOption_4_e n) (bodyOf Tryz.f19) (entry Tryz.f19.ntmps ((f_token_IsOption_4_c n).a.enc x.1) ((f_token_IsOption_4_c n).b.enc x.2)) (kfin (f_token_IsOption_4_e n) Tryz.f19 (f_token_IsOption_4_c n) (f_token_IsOption_4_c n).b.n) = (f_token_IsOption_4_c n).f x := by kernel_rfl
theorem f_token_IsOption_4_ok (X : Cx Tryz.prog K Gl) (n : Nat) : FOk Tryz.prog K Gl 19 (f_token_IsOption_4_c n) := func_ok (E := f_token_IsOption_4_e n) (fn := Tryz.f19) (cf := (f_token_IsOption_4_c n)) (os := []) X (tok _ _ _ _) rfl (f_token_IsOption_4_a X n) snil (by kernel_rfl) Tryz.func19 (by kernel_rfl) (f_token_IsOption_4_k n)
def f_token_IsMate_4 (c0 : List Int × Unit × Unit) (b0 : List (Int × Int × Int × Bool × Unit)) : ((Int × Unit) × Bool) × (List (Int × Int × Int × Bool × Unit)) × Unit :=
 (((0, ()), false), b0, ())
def f_token_IsMate_4_c (n : Nat) : Cf := ⟨.fc 54 (.t (.p (.a .i8 98) (.p (.r .s) (.u))) [.w 0]), .w 82 (.p (.i .i64) (.p (.i .i64) (.p (.i .i64) (.p (.b) (.u))))) true, [⟨.tu (.c (.t (.p (.i .i64) (.u)) []) (.t (.b) [])), .w 82 (.p (.i .i64) (.p (.i .i64) (.p (.i .i64) (.p (.b) (.u))))) true, .e⟩], fun x => some (f_token_IsMate_4 x.1 x.2)⟩
def f_token_IsMate_4_e (n : Nat) : Env := en [] [] [] []
theorem f_token_IsMate_4_a (X : Cx Tryz.prog K Gl) (n : Nat) : FAll Tryz.prog K Gl [] := fnil
theorem f_token_IsMate_4_k (n : Nat) (x : (f_token_IsMate_4_c n).a.X × (f_token_IsMate_4_c n).b.X) : run (f_token_IsMate_4_e n) (bodyOf Tryz.f18) (entry Tryz.f18.ntmps ((f_token_IsMate_4_c n).a.enc x.1) ((f_token_IsMate_4_c n).b.enc x.2)) (kfin (f_token_IsMate_4_e n) Tryz.f18 (f_token_IsMate_4_c n) (f_token_IsMate_4_c n).b.n) = (f_token_IsMate_4_c n).f x := by kernel_rfl
theorem f_token_IsMate_4_ok (X : Cx Tryz.prog K Gl) (n : Nat) : FOk Tryz.prog K Gl 18 (f_token_IsMate_4_c n) := func_ok (E := f_token_IsMate_4_e n) (fn := Tryz.f18) (cf := (f_token_IsMate_4_c n)) (os := []) X (tok _ _ _ _) rfl (f_token_IsMate_4_a X n) snil (by kernel_rfl) Tryz.func18 (by kernel_rfl) (f_token_IsMate_4_k n)
def f_kakugyolaw22_plain_4 (c0 : List Int × Unit × Unit) (b0 : List (Int × Int × Int × Bool × Unit)) : Option (((Int × ByteArray × ByteArray × ByteArray × List Int × Unit × Int × Int × Unit) × (List (Int × Int × Int × Bool × Unit)) × Unit) ⊕ ((Int × ByteArray × ByteArray × ByteArray × List Int × Unit × Int × Int × Unit) × (List (Int × Int × Int × Bool × Unit)) × Unit)) :=
 Br ((f_token_IsOption_4 c0 (f_token_Word c0 b0).2.1).1.2)
  (some (.inl ((2, (f_token_Word c0 b0).1, (f_token_IsOption_4 c0 (f_token_Word c0 b0).2.1).1.1.1, (f_token_IsOption_4 c0 (f_token_Word c0 b0).2.1).1.1.2.1, List.replicate 98 0, (), 0, 0, ()), (f_token_IsOption_4 c0 (f_token_Word c0 b0).2.1).2.1, ())))
  (Br ((f_token_IsPosition_4 c0 (f_token_IsOption_4 c0 (f_token_Word c0 b0).2.1).2.1).1.2)
   (some (.inr ((3, (f_token_Word c0 b0).1, (⟨#[]⟩ : ByteArray), (⟨#[]⟩ : ByteArray), (f_token_IsPosition_4 c0 (f_token_IsOption_4 c0 (f_token_Word c0 b0).2.1).2.1).1.1.1, (f_token_IsPosition_4 c0 (f_token_IsOption_4 c0 (f_token_Word c0 b0).2.1).2.1).1.1.2.1, 0, 0, ()), (f_token_IsPosition_4 c0 (f_token_IsOption_4 c0 (f_token_Word c0 b0).2.1).2.1).2.1, ())))
   (Br ((f_token_IsGo_4 c0 (f_token_IsPosition_4 c0 (f_token_IsOption_4 c0 (f_token_Word c0 b0).2.1).2.1).2.1).1.2)
    (some (.inl ((4, (f_token_Word c0 b0).1, (⟨#[]⟩ : ByteArray), (⟨#[]⟩ : ByteArray), List.replicate 98 0, (), (f_token_IsGo_4 c0 (f_token_IsPosition_4 c0 (f_token_IsOption_4 c0 (f_token_Word c0 b0).2.1).2.1).2.1).1.1.1, (f_token_IsGo_4 c0 (f_token_IsPosition_4 c0 (f_token_IsOption_4 c0 (f_token_Word c0 b0).2.1).2.1).2.1).1.1.2.1, ()), (f_token_IsGo_4 c0 (f_token_IsPosition_4 c0 (f_token_IsOption_4 c0 (f_token_Word c0 b0).2.1).2.1).2.1).2.1, ())))
    (Br ((f_token_IsMate_4 c0 (f_token_IsGo_4 c0 (f_token_IsPosition_4 c0 (f_token_IsOption_4 c0 (f_token_Word c0 b0).2.1).2.1).2.1).2.1).1.2)
     (some (.inl ((5, (f_token_Word c0 b0).1, (⟨#[]⟩ : ByteArray), (⟨#[]⟩ : ByteArray), List.replicate 98 0, (), 0, (f_token_IsMate_4 c0 (f_token_IsGo_4 c0 (f_token_IsPosition_4 c0 (f_token_IsOption_4 c0 (f_token_Word c0 b0).2.1).2.1).2.1).2.1).1.1.1, ()), (f_token_IsMate_4 c0 (f_token_IsGo_4 c0 (f_token_IsPosition_4 c0 (f_token_IsOption_4 c0 (f_token_Word c0 b0).2.1).2.1).2.1).2.1).2.1, ())))
     (Br (!(seq (f_token_Word c0 b0).1 (⟨#[]⟩ : ByteArray)))
      (some (.inl ((1, (f_token_Word c0 b0).1, (⟨#[]⟩ : ByteArray), (⟨#[]⟩ : ByteArray), List.replicate 98 0, (), 0, 0, ()), (f_token_IsMate_4 c0 (f_token_IsGo_4 c0 (f_token_IsPosition_4 c0 (f_token_IsOption_4 c0 (f_token_Word c0 b0).2.1).2.1).2.1).2.1).2.1, ())))
      (some (.inl ((0, (f_token_Word c0 b0).1, (⟨#[]⟩ : ByteArray), (⟨#[]⟩ : ByteArray), List.replicate 98 0, (), 0, 0, ()), (f_token_IsMate_4 c0 (f_token_IsGo_4 c0 (f_token_IsPosition_4 c0 (f_token_IsOption_4 c0 (f_token_Word c0 b0).2.1).2.1).2.1).2.1).2.1, ())))))))
def f_kakugyolaw22_plain_4_c (n : Nat) : Cf := ⟨.fc 54 (.t (.p (.a .i8 98) (.p (.r .s) (.u))) [.w 0]), .w 82 (.p (.i .i64) (.p (.i .i64) (.p (.i .i64) (.p (.b) (.u))))) true, [⟨.t (.p (.i .i64) (.p (.s) (.p (.s) (.p (.s) (.p (.a .i8 98) (.p (.r .s) (.p (.i .i64) (.p (.i .i64) (.u))))))))) [.ns], .w 82 (.p (.i .i64) (.p (.i .i64) (.p (.i .i64) (.p (.b) (.u))))) true, .e⟩, ⟨.t (.p (.i .i64) (.p (.s) (.p (.s) (.p (.s) (.p (.a .i8 98) (.p (.r .s) (.p (.i .i64) (.p (.i .i64) (.u))))))))) [.w 0], .w 82 (.p (.i .i64) (.p (.i .i64) (.p (.i .i64) (.p (.b) (.u))))) true, .e⟩], fun x => f_kakugyolaw22_plain_4 x.1 x.2⟩
def f_kakugyolaw22_plain_4_e (n : Nat) : Env := en [(16, f_token_Word_c n), (19, f_token_IsOption_4_c n), (17, f_token_IsPosition_4_c n), (12, f_token_IsGo_4_c n), (18, f_token_IsMate_4_c n)] [(4, [2]), (8, [2]), (12, [2]), (16, [2])] [] []
theorem f_kakugyolaw22_plain_4_a (X : Cx Tryz.prog K Gl) (n : Nat) : FAll Tryz.prog K Gl [(16, f_token_Word_c n), (19, f_token_IsOption_4_c n), (17, f_token_IsPosition_4_c n), (12, f_token_IsGo_4_c n), (18, f_token_IsMate_4_c n)] := (fcons (f_token_Word_ok X n) (fcons (f_token_IsOption_4_ok X n) (fcons (f_token_IsPosition_4_ok X n) (fcons (f_token_IsGo_4_ok X n) (fcons (f_token_IsMate_4_ok X n) fnil)))))
theorem f_kakugyolaw22_plain_4_k (n : Nat) (x : (f_kakugyolaw22_plain_4_c n).a.X × (f_kakugyolaw22_plain_4_c n).b.X) : run (f_kakugyolaw22_plain_4_e n) (bodyOf Tryz.f15) (entry Tryz.f15.ntmps ((f_kakugyolaw22_plain_4_c n).a.enc x.1) ((f_kakugyolaw22_plain_4_c n).b.enc x.2)) (kfin (f_kakugyolaw22_plain_4_e n) Tryz.f15 (f_kakugyolaw22_plain_4_c n) (f_kakugyolaw22_plain_4_c n).b.n) = (f_kakugyolaw22_plain_4_c n).f x := by kernel_rfl
theorem f_kakugyolaw22_plain_4_ok (X : Cx Tryz.prog K Gl) (n : Nat) : FOk Tryz.prog K Gl 15 (f_kakugyolaw22_plain_4_c n) := func_ok (E := f_kakugyolaw22_plain_4_e n) (fn := Tryz.f15) (cf := (f_kakugyolaw22_plain_4_c n)) (os := []) X (tok _ _ _ _) rfl (f_kakugyolaw22_plain_4_a X n) snil (by kernel_rfl) Tryz.func15 (by kernel_rfl) (f_kakugyolaw22_plain_4_k n)
def f_kakugyoref10_Same_1_l0_s (n : Nat) (r : Int → (List (Int × Int × Int × Bool × Unit)) → Option (Unit × List (Int × Int × Int × Bool × Unit))) (i1 : Int) (h2 : List (Int × Int × Int × Bool × Unit)) : Option (Unit × List (Int × Int × Int × Bool × Unit)) :=
 Br (lt i1 0)
  (none)
  (some ((), h2))
def f_kakugyoref10_Same_1_l0_i (n : Nat) : Nat → Int → (List (Int × Int × Int × Bool × Unit)) → Option (Unit × List (Int × Int × Int × Bool × Unit))
 | 0, _, _ => none
 | m + 1, i1, h2 => f_kakugyoref10_Same_1_l0_s n (f_kakugyoref10_Same_1_l0_i n m) i1 h2
def f_kakugyoref10_Same_1_l0 (n : Nat) := f_kakugyoref10_Same_1_l0_i n n
def f_kakugyoref10_Same_1 (n : Nat) (b0 : List (Int × Int × Int × Bool × Unit)) : Option (Bool × (List (Int × Int × Int × Bool × Unit)) × Unit) :=
 Br (!(eq 0 (b0.length : Int)))
  (some (false, b0, ()))
  (ob (f_kakugyoref10_Same_1_l0 n 0 b0) fun y4 =>
  some (true, y4.2, ()))
def f_kakugyoref10_Same_1_c (n : Nat) : Cf := ⟨.c (.t (.r .s) [.ns]) (.t (.r .s) [.w 0]), .w 82 (.p (.i .i64) (.p (.i .i64) (.p (.i .i64) (.p (.b) (.u))))) false, [⟨.t (.b) [], .w 82 (.p (.i .i64) (.p (.i .i64) (.p (.i .i64) (.p (.b) (.u))))) false, .e⟩], fun x => f_kakugyoref10_Same_1 n x.2⟩
def f_kakugyoref10_Same_1_l0_c (n : Nat) : Cs := ⟨1, [], ⟨[0, 1, 5], .c (.t (.r .s) [.ns]) (.c (.t (.r .s) [.w 0]) (.t (.i .i64) [])), .w 82 (.p (.i .i64) (.p (.i .i64) (.p (.i .i64) (.p (.b) (.u))))) false⟩, [⟨0, ⟨[], .e, .w 82 (.p (.i .i64) (.p (.i .i64) (.p (.i .i64) (.p (.b) (.u))))) false⟩⟩], fun v => f_kakugyoref10_Same_1_l0 n v.1.2.2 v.2⟩
def f_kakugyoref10_Same_1_e (n : Nat) : Env := en [] [] [] [(0, f_kakugyoref10_Same_1_l0_c n)]
theorem f_kakugyoref10_Same_1_a (X : Cx Tryz.prog K Gl) (n : Nat) : FAll Tryz.prog K Gl [] := fnil
theorem f_kakugyoref10_Same_1_l0_k (n : Nat) (p : Nat) (v : (f_kakugyoref10_Same_1_l0_c n).s.X) : run (f_kakugyoref10_Same_1_e n) (lbody 0 (bodyOf Tryz.f23)) ((f_kakugyoref10_Same_1_l0_c n).s.st Tryz.f23.ntmps v) (kloop 0 (f_kakugyoref10_Same_1_l0_c n) (fun v => f_kakugyoref10_Same_1_l0_i n p v.1.2.2 v.2)) = f_kakugyoref10_Same_1_l0_i n (p + 1) v.1.2.2 v.2 := by kernel_rfl
theorem f_kakugyoref10_Same_1_l0_o (X : Cx Tryz.prog K Gl) (n : Nat) : SO Tryz.prog K Gl Tryz.f23.ntmps 1 (.block 0 (.loop (lbody 0 (bodyOf Tryz.f23)))) (f_kakugyoref10_Same_1_l0_c n) := loop_ok (E := f_kakugyoref10_Same_1_e n) (os := []) (s := f_kakugyoref10_Same_1_l0_c n) (n := n) X (tok _ _ _ _) rfl (f_kakugyoref10_Same_1_a X n) snil (by kernel_rfl) rfl (fun p (v : (f_kakugyoref10_Same_1_l0_c n).s.X) => f_kakugyoref10_Same_1_l0_i n p v.1.2.2 v.2) (fun _ => rfl) (f_kakugyoref10_Same_1_l0_k n) (fun _ => rfl)
theorem f_kakugyoref10_Same_1_k (n : Nat) (x : (f_kakugyoref10_Same_1_c n).a.X × (f_kakugyoref10_Same_1_c n).b.X) : run (f_kakugyoref10_Same_1_e n) (bodyOf Tryz.f23) (entry Tryz.f23.ntmps ((f_kakugyoref10_Same_1_c n).a.enc x.1) ((f_kakugyoref10_Same_1_c n).b.enc x.2)) (kfin (f_kakugyoref10_Same_1_e n) Tryz.f23 (f_kakugyoref10_Same_1_c n) (f_kakugyoref10_Same_1_c n).b.n) = (f_kakugyoref10_Same_1_c n).f x := by kernel_rfl
theorem f_kakugyoref10_Same_1_ok (X : Cx Tryz.prog K Gl) (n : Nat) : FOk Tryz.prog K Gl 23 (f_kakugyoref10_Same_1_c n) := func_ok (E := f_kakugyoref10_Same_1_e n) (fn := Tryz.f23) (cf := (f_kakugyoref10_Same_1_c n)) (os := [(.block 0 (.loop (lbody 0 (bodyOf Tryz.f23))), f_kakugyoref10_Same_1_l0_c n)]) X (tok _ _ _ _) rfl (f_kakugyoref10_Same_1_a X n) (scons (f_kakugyoref10_Same_1_l0_o X n) snil) (by kernel_rfl) Tryz.func23 (by kernel_rfl) (f_kakugyoref10_Same_1_k n)
def f_kakugyolaw22_like_1 (n : Nat) (a0 : Int × ByteArray × ByteArray × ByteArray × List Int × Unit × Int × Int × Unit) (bv1 : Int × ByteArray × ByteArray × ByteArray × List Int × Unit × Int × Int × Unit) (b0 : List (Int × Int × Int × Bool × Unit)) : Option (Bool × (List (Int × Int × Int × Bool × Unit)) × Unit) :=
 Br (eq a0.1 bv1.1)
  (Br (seq a0.2.1 bv1.2.1)
   (Br (seq a0.2.2.1 bv1.2.2.1)
    (Br (seq a0.2.2.2.1 bv1.2.2.2.1)
     (Br (List.beq a0.2.2.2.2.1 bv1.2.2.2.2.1)
      (Br (eq a0.2.2.2.2.2.2.1 bv1.2.2.2.2.2.2.1)
       (Br (eq a0.2.2.2.2.2.2.2.1 bv1.2.2.2.2.2.2.2.1)
        (ob (f_kakugyoref10_Same_1 n b0) fun y1 =>
        some (y1.1, b0, ()))
        (some (false, b0, ())))
       (some (false, b0, ())))
      (some (false, b0, ())))
     (some (false, b0, ())))
    (some (false, b0, ())))
   (some (false, b0, ())))
  (some (false, b0, ()))
def f_kakugyolaw22_like_1_c (n : Nat) : Cf := ⟨.c (.t (.p (.i .i64) (.p (.s) (.p (.s) (.p (.s) (.p (.a .i8 98) (.p (.r .s) (.p (.i .i64) (.p (.i .i64) (.u))))))))) [.ns]) (.t (.p (.i .i64) (.p (.s) (.p (.s) (.p (.s) (.p (.a .i8 98) (.p (.r .s) (.p (.i .i64) (.p (.i .i64) (.u))))))))) [.w 0]), .w 82 (.p (.i .i64) (.p (.i .i64) (.p (.i .i64) (.p (.b) (.u))))) true, [⟨.t (.b) [], .w 82 (.p (.i .i64) (.p (.i .i64) (.p (.i .i64) (.p (.b) (.u))))) true, .e⟩], fun x => f_kakugyolaw22_like_1 n x.1.1 x.1.2 x.2⟩
def f_kakugyolaw22_like_1_e (n : Nat) : Env := en [(23, f_kakugyoref10_Same_1_c n)] [] [] []
theorem f_kakugyolaw22_like_1_a (X : Cx Tryz.prog K Gl) (n : Nat) : FAll Tryz.prog K Gl [(23, f_kakugyoref10_Same_1_c n)] := (fcons (f_kakugyoref10_Same_1_ok X n) fnil)
theorem f_kakugyolaw22_like_1_k (n : Nat) (x : (f_kakugyolaw22_like_1_c n).a.X × (f_kakugyolaw22_like_1_c n).b.X) : run (f_kakugyolaw22_like_1_e n) (bodyOf Tryz.f14) (entry Tryz.f14.ntmps ((f_kakugyolaw22_like_1_c n).a.enc x.1) ((f_kakugyolaw22_like_1_c n).b.enc x.2)) (kfin (f_kakugyolaw22_like_1_e n) Tryz.f14 (f_kakugyolaw22_like_1_c n) (f_kakugyolaw22_like_1_c n).b.n) = (f_kakugyolaw22_like_1_c n).f x := by kernel_rfl
theorem f_kakugyolaw22_like_1_ok (X : Cx Tryz.prog K Gl) (n : Nat) : FOk Tryz.prog K Gl 14 (f_kakugyolaw22_like_1_c n) := func_ok (E := f_kakugyolaw22_like_1_e n) (fn := Tryz.f14) (cf := (f_kakugyolaw22_like_1_c n)) (os := []) X (tok _ _ _ _) rfl (f_kakugyolaw22_like_1_a X n) snil (by kernel_rfl) Tryz.func14 (by kernel_rfl) (f_kakugyolaw22_like_1_k n)
def f_token_Mate_word (c0 : Int × Unit) : ByteArray × Unit × Unit :=
 ((⟨#[103, 111]⟩ : ByteArray), (), ())
def f_token_Mate_word_c (n : Nat) : Cf := ⟨.t (.p (.i .i64) (.u)) [], .e, [⟨.t (.s) [], .e, .e⟩], fun x => some (f_token_Mate_word x.1)⟩
def f_token_Mate_word_e (n : Nat) : Env := en [] [] [] []
theorem f_token_Mate_word_a (X : Cx Tryz.prog K Gl) (n : Nat) : FAll Tryz.prog K Gl [] := fnil
theorem f_token_Mate_word_k (n : Nat) (x : (f_token_Mate_word_c n).a.X × (f_token_Mate_word_c n).b.X) : run (f_token_Mate_word_e n) (bodyOf Tryz.f193) (entry Tryz.f193.ntmps ((f_token_Mate_word_c n).a.enc x.1) ((f_token_Mate_word_c n).b.enc x.2)) (kfin (f_token_Mate_word_e n) Tryz.f193 (f_token_Mate_word_c n) (f_token_Mate_word_c n).b.n) = (f_token_Mate_word_c n).f x := by kernel_rfl
theorem f_token_Mate_word_ok (X : Cx Tryz.prog K Gl) (n : Nat) : FOk Tryz.prog K Gl 193 (f_token_Mate_word_c n) := func_ok (E := f_token_Mate_word_e n) (fn := Tryz.f193) (cf := (f_token_Mate_word_c n)) (os := []) X (tok _ _ _ _) rfl (f_token_Mate_word_a X n) snil (by kernel_rfl) Tryz.func193 (by kernel_rfl) (f_token_Mate_word_k n)
def f_token_Word_5 (c0 : Int × Unit) : ByteArray × Unit × Unit :=
 ((f_token_Mate_word c0).1, (), ())
def f_token_Word_5_c (n : Nat) : Cf := ⟨.fc 58 (.t (.p (.i .i64) (.u)) []), .e, [⟨.t (.s) [], .e, .e⟩], fun x => some (f_token_Word_5 x.1)⟩
def f_token_Word_5_e (n : Nat) : Env := en [(193, f_token_Mate_word_c n)] [] [] []
theorem f_token_Word_5_a (X : Cx Tryz.prog K Gl) (n : Nat) : FAll Tryz.prog K Gl [(193, f_token_Mate_word_c n)] := (fcons (f_token_Mate_word_ok X n) fnil)
theorem f_token_Word_5_k (n : Nat) (x : (f_token_Word_5_c n).a.X × (f_token_Word_5_c n).b.X) : run (f_token_Word_5_e n) (bodyOf Tryz.f16) (entry Tryz.f16.ntmps ((f_token_Word_5_c n).a.enc x.1) ((f_token_Word_5_c n).b.enc x.2)) (kfin (f_token_Word_5_e n) Tryz.f16 (f_token_Word_5_c n) (f_token_Word_5_c n).b.n) = (f_token_Word_5_c n).f x := by kernel_rfl
theorem f_token_Word_5_ok (X : Cx Tryz.prog K Gl) (n : Nat) : FOk Tryz.prog K Gl 16 (f_token_Word_5_c n) := func_ok (E := f_token_Word_5_e n) (fn := Tryz.f16) (cf := (f_token_Word_5_c n)) (os := []) X (tok _ _ _ _) rfl (f_token_Word_5_a X n) snil (by kernel_rfl) Tryz.func16 (by kernel_rfl) (f_token_Word_5_k n)
def f_token_IsOption_5 (c0 : Int × Unit) : ((ByteArray × ByteArray × Unit) × Bool) × Unit × Unit :=
 ((((⟨#[]⟩ : ByteArray), (⟨#[]⟩ : ByteArray), ()), false), (), ())
def f_token_IsOption_5_c (n : Nat) : Cf := ⟨.fc 58 (.t (.p (.i .i64) (.u)) []), .e, [⟨.tu (.c (.t (.p (.s) (.p (.s) (.u))) []) (.t (.b) [])), .e, .e⟩], fun x => some (f_token_IsOption_5 x.1)⟩
def f_token_IsOption_5_e (n : Nat) : Env := en [] [] [] []
theorem f_token_IsOption_5_a (X : Cx Tryz.prog K Gl) (n : Nat) : FAll Tryz.prog K Gl [] := fnil
theorem f_token_IsOption_5_k (n : Nat) (x : (f_token_IsOption_5_c n).a.X × (f_token_IsOption_5_c n).b.X) : run (f_token_IsOption_5_e n) (bodyOf Tryz.f19) (entry Tryz.f19.ntmps ((f_token_IsOption_5_c n).a.enc x.1) ((f_token_IsOption_5_c n).b.enc x.2)) (kfin (f_token_IsOption_5_e n) Tryz.f19 (f_token_IsOption_5_c n) (f_token_IsOption_5_c n).b.n) = (f_token_IsOption_5_c n).f x := by kernel_rfl
theorem f_token_IsOption_5_ok (X : Cx Tryz.prog K Gl) (n : Nat) : FOk Tryz.prog K Gl 19 (f_token_IsOption_5_c n) := func_ok (E := f_token_IsOption_5_e n) (fn := Tryz.f19) (cf := (f_token_IsOption_5_c n)) (os := []) X (tok _ _ _ _) rfl (f_token_IsOption_5_a X n) snil (by kernel_rfl) Tryz.func19 (by kernel_rfl) (f_token_IsOption_5_k n)
def f_token_IsMate_5 (c0 : Int × Unit) : ((Int × Unit) × Bool) × Unit × Unit :=
 ((c0, true), (), ())
def f_token_IsMate_5_c (n : Nat) : Cf := ⟨.fc 58 (.t (.p (.i .i64) (.u)) []), .e, [⟨.tu (.c (.t (.p (.i .i64) (.u)) []) (.t (.b) [])), .e, .e⟩], fun x => some (f_token_IsMate_5 x.1)⟩
def f_token_IsMate_5_e (n : Nat) : Env := en [] [] [] []
theorem f_token_IsMate_5_a (X : Cx Tryz.prog K Gl) (n : Nat) : FAll Tryz.prog K Gl [] := fnil
theorem f_token_IsMate_5_k (n : Nat) (x : (f_token_IsMate_5_c n).a.X × (f_token_IsMate_5_c n).b.X) : run (f_token_IsMate_5_e n) (bodyOf Tryz.f18) (entry Tryz.f18.ntmps ((f_token_IsMate_5_c n).a.enc x.1) ((f_token_IsMate_5_c n).b.enc x.2)) (kfin (f_token_IsMate_5_e n) Tryz.f18 (f_token_IsMate_5_c n) (f_token_IsMate_5_c n).b.n) = (f_token_IsMate_5_c n).f x := by kernel_rfl
theorem f_token_IsMate_5_ok (X : Cx Tryz.prog K Gl) (n : Nat) : FOk Tryz.prog K Gl 18 (f_token_IsMate_5_c n) := func_ok (E := f_token_IsMate_5_e n) (fn := Tryz.f18) (cf := (f_token_IsMate_5_c n)) (os := []) X (tok _ _ _ _) rfl (f_token_IsMate_5_a X n) snil (by kernel_rfl) Tryz.func18 (by kernel_rfl) (f_token_IsMate_5_k n)
def f_kakugyolaw22_plain_5 (c0 : Int × Unit) : Option ((Int × ByteArray × ByteArray × ByteArray × List Int × Unit × Int × Int × Unit) × Unit × Unit) :=
 Br ((f_token_IsOption_5 c0).1.2)
  (some ((2, (f_token_Word_5 c0).1, (f_token_IsOption_5 c0).1.1.1, (f_token_IsOption_5 c0).1.1.2.1, List.replicate 98 0, (), 0, 0, ()), (), ()))
  (Br ((f_token_IsPosition_5 c0).1.2)
   (some ((3, (f_token_Word_5 c0).1, (⟨#[]⟩ : ByteArray), (⟨#[]⟩ : ByteArray), (f_token_IsPosition_5 c0).1.1.1, (f_token_IsPosition_5 c0).1.1.2.1, 0, 0, ()), (), ()))
   (Br ((f_token_IsGo_5 c0).1.2)
    (some ((4, (f_token_Word_5 c0).1, (⟨#[]⟩ : ByteArray), (⟨#[]⟩ : ByteArray), List.replicate 98 0, (), (f_token_IsGo_5 c0).1.1.1, (f_token_IsGo_5 c0).1.1.2.1, ()), (), ()))
    (Br ((f_token_IsMate_5 c0).1.2)
     (some ((5, (f_token_Word_5 c0).1, (⟨#[]⟩ : ByteArray), (⟨#[]⟩ : ByteArray), List.replicate 98 0, (), 0, (f_token_IsMate_5 c0).1.1.1, ()), (), ()))
     (Br (!(seq (f_token_Word_5 c0).1 (⟨#[]⟩ : ByteArray)))
      (some ((1, (f_token_Word_5 c0).1, (⟨#[]⟩ : ByteArray), (⟨#[]⟩ : ByteArray), List.replicate 98 0, (), 0, 0, ()), (), ()))
      (some ((0, (f_token_Word_5 c0).1, (⟨#[]⟩ : ByteArray), (⟨#[]⟩ : ByteArray), List.replicate 98 0, (), 0, 0, ()), (), ()))))))
def f_kakugyolaw22_plain_5_c (n : Nat) : Cf := ⟨.fc 58 (.t (.p (.i .i64) (.u)) []), .e, [⟨.t (.p (.i .i64) (.p (.s) (.p (.s) (.p (.s) (.p (.a .i8 98) (.p (.r .s) (.p (.i .i64) (.p (.i .i64) (.u))))))))) [.ns], .e, .e⟩], fun x => f_kakugyolaw22_plain_5 x.1⟩
def f_kakugyolaw22_plain_5_e (n : Nat) : Env := en [(16, f_token_Word_5_c n), (19, f_token_IsOption_5_c n), (17, f_token_IsPosition_5_c n), (12, f_token_IsGo_5_c n), (18, f_token_IsMate_5_c n)] [(4, [1]), (8, [1]), (12, [1]), (16, [1])] [] []
theorem f_kakugyolaw22_plain_5_a (X : Cx Tryz.prog K Gl) (n : Nat) : FAll Tryz.prog K Gl [(16, f_token_Word_5_c n), (19, f_token_IsOption_5_c n), (17, f_token_IsPosition_5_c n), (12, f_token_IsGo_5_c n), (18, f_token_IsMate_5_c n)] := (fcons (f_token_Word_5_ok X n) (fcons (f_token_IsOption_5_ok X n) (fcons (f_token_IsPosition_5_ok X n) (fcons (f_token_IsGo_5_ok X n) (fcons (f_token_IsMate_5_ok X n) fnil)))))
theorem f_kakugyolaw22_plain_5_k (n : Nat) (x : (f_kakugyolaw22_plain_5_c n).a.X × (f_kakugyolaw22_plain_5_c n).b.X) : run (f_kakugyolaw22_plain_5_e n) (bodyOf Tryz.f15) (entry Tryz.f15.ntmps ((f_kakugyolaw22_plain_5_c n).a.enc x.1) ((f_kakugyolaw22_plain_5_c n).b.enc x.2)) (kfin (f_kakugyolaw22_plain_5_e n) Tryz.f15 (f_kakugyolaw22_plain_5_c n) (f_kakugyolaw22_plain_5_c n).b.n) = (f_kakugyolaw22_plain_5_c n).f x := by kernel_rfl
theorem f_kakugyolaw22_plain_5_ok (X : Cx Tryz.prog K Gl) (n : Nat) : FOk Tryz.prog K Gl 15 (f_kakugyolaw22_plain_5_c n) := func_ok (E := f_kakugyolaw22_plain_5_e n) (fn := Tryz.f15) (cf := (f_kakugyolaw22_plain_5_c n)) (os := []) X (tok _ _ _ _) rfl (f_kakugyolaw22_plain_5_a X n) snil (by kernel_rfl) Tryz.func15 (by kernel_rfl) (f_kakugyolaw22_plain_5_k n)
def f_token_Go_word (c0 : Int × Int × Unit) : ByteArray × Unit × Unit :=
 ((⟨#[103, 111]⟩ : ByteArray), (), ())
def f_token_Go_word_c (n : Nat) : Cf := ⟨.t (.p (.i .i64) (.p (.i .i64) (.u))) [], .e, [⟨.t (.s) [], .e, .e⟩], fun x => some (f_token_Go_word x.1)⟩
def f_token_Go_word_e (n : Nat) : Env := en [] [] [] []
theorem f_token_Go_word_a (X : Cx Tryz.prog K Gl) (n : Nat) : FAll Tryz.prog K Gl [] := fnil
theorem f_token_Go_word_k (n : Nat) (x : (f_token_Go_word_c n).a.X × (f_token_Go_word_c n).b.X) : run (f_token_Go_word_e n) (bodyOf Tryz.f191) (entry Tryz.f191.ntmps ((f_token_Go_word_c n).a.enc x.1) ((f_token_Go_word_c n).b.enc x.2)) (kfin (f_token_Go_word_e n) Tryz.f191 (f_token_Go_word_c n) (f_token_Go_word_c n).b.n) = (f_token_Go_word_c n).f x := by kernel_rfl
theorem f_token_Go_word_ok (X : Cx Tryz.prog K Gl) (n : Nat) : FOk Tryz.prog K Gl 191 (f_token_Go_word_c n) := func_ok (E := f_token_Go_word_e n) (fn := Tryz.f191) (cf := (f_token_Go_word_c n)) (os := []) X (tok _ _ _ _) rfl (f_token_Go_word_a X n) snil (by kernel_rfl) Tryz.func191 (by kernel_rfl) (f_token_Go_word_k n)
def f_token_Word_6 (c0 : Int × Int × Unit) : ByteArray × Unit × Unit :=
 ((f_token_Go_word c0).1, (), ())
def f_token_Word_6_c (n : Nat) : Cf := ⟨.fc 32 (.t (.p (.i .i64) (.p (.i .i64) (.u))) []), .e, [⟨.t (.s) [], .e, .e⟩], fun x => some (f_token_Word_6 x.1)⟩
def f_token_Word_6_e (n : Nat) : Env := en [(191, f_token_Go_word_c n)] [] [] []
theorem f_token_Word_6_a (X : Cx Tryz.prog K Gl) (n : Nat) : FAll Tryz.prog K Gl [(191, f_token_Go_word_c n)] := (fcons (f_token_Go_word_ok X n) fnil)
theorem f_token_Word_6_k (n : Nat) (x : (f_token_Word_6_c n).a.X × (f_token_Word_6_c n).b.X) : run (f_token_Word_6_e n) (bodyOf Tryz.f16) (entry Tryz.f16.ntmps ((f_token_Word_6_c n).a.enc x.1) ((f_token_Word_6_c n).b.enc x.2)) (kfin (f_token_Word_6_e n) Tryz.f16 (f_token_Word_6_c n) (f_token_Word_6_c n).b.n) = (f_token_Word_6_c n).f x := by kernel_rfl
theorem f_token_Word_6_ok (X : Cx Tryz.prog K Gl) (n : Nat) : FOk Tryz.prog K Gl 16 (f_token_Word_6_c n) := func_ok (E := f_token_Word_6_e n) (fn := Tryz.f16) (cf := (f_token_Word_6_c n)) (os := []) X (tok _ _ _ _) rfl (f_token_Word_6_a X n) snil (by kernel_rfl) Tryz.func16 (by kernel_rfl) (f_token_Word_6_k n)
def f_token_IsOption_6 (c0 : Int × Int × Unit) : ((ByteArray × ByteArray × Unit) × Bool) × Unit × Unit :=
 ((((⟨#[]⟩ : ByteArray), (⟨#[]⟩ : ByteArray), ()), false), (), ())
def f_token_IsOption_6_c (n : Nat) : Cf := ⟨.fc 32 (.t (.p (.i .i64) (.p (.i .i64) (.u))) []), .e, [⟨.tu (.c (.t (.p (.s) (.p (.s) (.u))) []) (.t (.b) [])), .e, .e⟩], fun x => some (f_token_IsOption_6 x.1)⟩
def f_token_IsOption_6_e (n : Nat) : Env := en [] [] [] []
theorem f_token_IsOption_6_a (X : Cx Tryz.prog K Gl) (n : Nat) : FAll Tryz.prog K Gl [] := fnil
theorem f_token_IsOption_6_k (n : Nat) (x : (f_token_IsOption_6_c n).a.X × (f_token_IsOption_6_c n).b.X) : run (f_token_IsOption_6_e n) (bodyOf Tryz.f19) (entry Tryz.f19.ntmps ((f_token_IsOption_6_c n).a.enc x.1) ((f_token_IsOption_6_c n).b.enc x.2)) (kfin (f_token_IsOption_6_e n) Tryz.f19 (f_token_IsOption_6_c n) (f_token_IsOption_6_c n).b.n) = (f_token_IsOption_6_c n).f x := by kernel_rfl
theorem f_token_IsOption_6_ok (X : Cx Tryz.prog K Gl) (n : Nat) : FOk Tryz.prog K Gl 19 (f_token_IsOption_6_c n) := func_ok (E := f_token_IsOption_6_e n) (fn := Tryz.f19) (cf := (f_token_IsOption_6_c n)) (os := []) X (tok _ _ _ _) rfl (f_token_IsOption_6_a X n) snil (by kernel_rfl) Tryz.func19 (by kernel_rfl) (f_token_IsOption_6_k n)
def f_token_IsMate_6 (c0 : Int × Int × Unit) : ((Int × Unit) × Bool) × Unit × Unit :=
 (((0, ()), false), (), ())
def f_token_IsMate_6_c (n : Nat) : Cf := ⟨.fc 32 (.t (.p (.i .i64) (.p (.i .i64) (.u))) []), .e, [⟨.tu (.c (.t (.p (.i .i64) (.u)) []) (.t (.b) [])), .e, .e⟩], fun x => some (f_token_IsMate_6 x.1)⟩
def f_token_IsMate_6_e (n : Nat) : Env := en [] [] [] []
theorem f_token_IsMate_6_a (X : Cx Tryz.prog K Gl) (n : Nat) : FAll Tryz.prog K Gl [] := fnil
theorem f_token_IsMate_6_k (n : Nat) (x : (f_token_IsMate_6_c n).a.X × (f_token_IsMate_6_c n).b.X) : run (f_token_IsMate_6_e n) (bodyOf Tryz.f18) (entry Tryz.f18.ntmps ((f_token_IsMate_6_c n).a.enc x.1) ((f_token_IsMate_6_c n).b.enc x.2)) (kfin (f_token_IsMate_6_e n) Tryz.f18 (f_token_IsMate_6_c n) (f_token_IsMate_6_c n).b.n) = (f_token_IsMate_6_c n).f x := by kernel_rfl
theorem f_token_IsMate_6_ok (X : Cx Tryz.prog K Gl) (n : Nat) : FOk Tryz.prog K Gl 18 (f_token_IsMate_6_c n) := func_ok (E := f_token_IsMate_6_e n) (fn := Tryz.f18) (cf := (f_token_IsMate_6_c n)) (os := []) X (tok _ _ _ _) rfl (f_token_IsMate_6_a X n) snil (by kernel_rfl) Tryz.func18 (by kernel_rfl) (f_token_IsMate_6_k n)
def f_kakugyolaw22_plain_6 (c0 : Int × Int × Unit) : Option ((Int × ByteArray × ByteArray × ByteArray × List Int × Unit × Int × Int × Unit) × Unit × Unit) :=
 Br ((f_token_IsOption_6 c0).1.2)
  (some ((2, (f_token_Word_6 c0).1, (f_token_IsOption_6 c0).1.1.1, (f_token_IsOption_6 c0).1.1.2.1, List.replicate 98 0, (), 0, 0, ()), (), ()))
  (Br ((f_token_IsPosition_6 c0).1.2)
   (some ((3, (f_token_Word_6 c0).1, (⟨#[]⟩ : ByteArray), (⟨#[]⟩ : ByteArray), (f_token_IsPosition_6 c0).1.1.1, (f_token_IsPosition_6 c0).1.1.2.1, 0, 0, ()), (), ()))
   (Br ((f_token_IsGo_6 c0).1.2)
    (some ((4, (f_token_Word_6 c0).1, (⟨#[]⟩ : ByteArray), (⟨#[]⟩ : ByteArray), List.replicate 98 0, (), (f_token_IsGo_6 c0).1.1.1, (f_token_IsGo_6 c0).1.1.2.1, ()), (), ()))
    (Br ((f_token_IsMate_6 c0).1.2)
     (some ((5, (f_token_Word_6 c0).1, (⟨#[]⟩ : ByteArray), (⟨#[]⟩ : ByteArray), List.replicate 98 0, (), 0, (f_token_IsMate_6 c0).1.1.1, ()), (), ()))
     (Br (!(seq (f_token_Word_6 c0).1 (⟨#[]⟩ : ByteArray)))
      (some ((1, (f_token_Word_6 c0).1, (⟨#[]⟩ : ByteArray), (⟨#[]⟩ : ByteArray), List.replicate 98 0, (), 0, 0, ()), (), ()))
      (some ((0, (f_token_Word_6 c0).1, (⟨#[]⟩ : ByteArray), (⟨#[]⟩ : ByteArray), List.replicate 98 0, (), 0, 0, ()), (), ()))))))
def f_kakugyolaw22_plain_6_c (n : Nat) : Cf := ⟨.fc 32 (.t (.p (.i .i64) (.p (.i .i64) (.u))) []), .e, [⟨.t (.p (.i .i64) (.p (.s) (.p (.s) (.p (.s) (.p (.a .i8 98) (.p (.r .s) (.p (.i .i64) (.p (.i .i64) (.u))))))))) [.ns], .e, .e⟩], fun x => f_kakugyolaw22_plain_6 x.1⟩
def f_kakugyolaw22_plain_6_e (n : Nat) : Env := en [(16, f_token_Word_6_c n), (19, f_token_IsOption_6_c n), (17, f_token_IsPosition_6_c n), (12, f_token_IsGo_6_c n), (18, f_token_IsMate_6_c n)] [(4, [1]), (8, [1]), (12, [1]), (16, [1])] [] []
theorem f_kakugyolaw22_plain_6_a (X : Cx Tryz.prog K Gl) (n : Nat) : FAll Tryz.prog K Gl [(16, f_token_Word_6_c n), (19, f_token_IsOption_6_c n), (17, f_token_IsPosition_6_c n), (12, f_token_IsGo_6_c n), (18, f_token_IsMate_6_c n)] := (fcons (f_token_Word_6_ok X n) (fcons (f_token_IsOption_6_ok X n) (fcons (f_token_IsPosition_6_ok X n) (fcons (f_token_IsGo_6_ok X n) (fcons (f_token_IsMate_6_ok X n) fnil)))))
theorem f_kakugyolaw22_plain_6_k (n : Nat) (x : (f_kakugyolaw22_plain_6_c n).a.X × (f_kakugyolaw22_plain_6_c n).b.X) : run (f_kakugyolaw22_plain_6_e n) (bodyOf Tryz.f15) (entry Tryz.f15.ntmps ((f_kakugyolaw22_plain_6_c n).a.enc x.1) ((f_kakugyolaw22_plain_6_c n).b.enc x.2)) (kfin (f_kakugyolaw22_plain_6_e n) Tryz.f15 (f_kakugyolaw22_plain_6_c n) (f_kakugyolaw22_plain_6_c n).b.n) = (f_kakugyolaw22_plain_6_c n).f x := by kernel_rfl
theorem f_kakugyolaw22_plain_6_ok (X : Cx Tryz.prog K Gl) (n : Nat) : FOk Tryz.prog K Gl 15 (f_kakugyolaw22_plain_6_c n) := func_ok (E := f_kakugyolaw22_plain_6_e n) (fn := Tryz.f15) (cf := (f_kakugyolaw22_plain_6_c n)) (os := []) X (tok _ _ _ _) rfl (f_kakugyolaw22_plain_6_a X n) snil (by kernel_rfl) Tryz.func15 (by kernel_rfl) (f_kakugyolaw22_plain_6_k n)
def f_kakugyoref10_Same_2_l0_s (n : Nat) (r : Int → (List (Int × Int × Int × Bool × Unit)) → Option (Unit × List (Int × Int × Int × Bool × Unit))) (i1 : Int) (h2 : List (Int × Int × Int × Bool × Unit)) : Option (Unit × List (Int × Int × Int × Bool × Unit)) :=
 Br (lt i1 (h2.length : Int))
  (Br (inr i1 (h2.length : Int))
   (none)
   (none))
  (some ((), h2))
def f_kakugyoref10_Same_2_l0_i (n : Nat) : Nat → Int → (List (Int × Int × Int × Bool × Unit)) → Option (Unit × List (Int × Int × Int × Bool × Unit))
 | 0, _, _ => none
 | m + 1, i1, h2 => f_kakugyoref10_Same_2_l0_s n (f_kakugyoref10_Same_2_l0_i n m) i1 h2
def f_kakugyoref10_Same_2_l0 (n : Nat) := f_kakugyoref10_Same_2_l0_i n n
def f_kakugyoref10_Same_2 (n : Nat) (b0 : List (Int × Int × Int × Bool × Unit)) : Option (Bool × (List (Int × Int × Int × Bool × Unit)) × Unit) :=
 Br (!(eq (b0.length : Int) 0))
  (some (false, b0, ()))
  (ob (f_kakugyoref10_Same_2_l0 n 0 b0) fun y4 =>
  some (true, y4.2, ()))
def f_kakugyoref10_Same_2_c (n : Nat) : Cf := ⟨.c (.t (.r .s) [.w 0]) (.t (.r .s) [.ns]), .w 82 (.p (.i .i64) (.p (.i .i64) (.p (.i .i64) (.p (.b) (.u))))) false, [⟨.t (.b) [], .w 82 (.p (.i .i64) (.p (.i .i64) (.p (.i .i64) (.p (.b) (.u))))) false, .e⟩], fun x => f_kakugyoref10_Same_2 n x.2⟩
def f_kakugyoref10_Same_2_l0_c (n : Nat) : Cs := ⟨1, [], ⟨[0, 1, 5], .c (.t (.r .s) [.w 0]) (.c (.t (.r .s) [.ns]) (.t (.i .i64) [])), .w 82 (.p (.i .i64) (.p (.i .i64) (.p (.i .i64) (.p (.b) (.u))))) false⟩, [⟨0, ⟨[], .e, .w 82 (.p (.i .i64) (.p (.i .i64) (.p (.i .i64) (.p (.b) (.u))))) false⟩⟩], fun v => f_kakugyoref10_Same_2_l0 n v.1.2.2 v.2⟩
def f_kakugyoref10_Same_2_e (n : Nat) : Env := en [] [] [] [(0, f_kakugyoref10_Same_2_l0_c n)]
theorem f_kakugyoref10_Same_2_a (X : Cx Tryz.prog K Gl) (n : Nat) : FAll Tryz.prog K Gl [] := fnil
theorem f_kakugyoref10_Same_2_l0_k (n : Nat) (p : Nat) (v : (f_kakugyoref10_Same_2_l0_c n).s.X) : run (f_kakugyoref10_Same_2_e n) (lbody 0 (bodyOf Tryz.f23)) ((f_kakugyoref10_Same_2_l0_c n).s.st Tryz.f23.ntmps v) (kloop 0 (f_kakugyoref10_Same_2_l0_c n) (fun v => f_kakugyoref10_Same_2_l0_i n p v.1.2.2 v.2)) = f_kakugyoref10_Same_2_l0_i n (p + 1) v.1.2.2 v.2 := by kernel_rfl
theorem f_kakugyoref10_Same_2_l0_o (X : Cx Tryz.prog K Gl) (n : Nat) : SO Tryz.prog K Gl Tryz.f23.ntmps 1 (.block 0 (.loop (lbody 0 (bodyOf Tryz.f23)))) (f_kakugyoref10_Same_2_l0_c n) := loop_ok (E := f_kakugyoref10_Same_2_e n) (os := []) (s := f_kakugyoref10_Same_2_l0_c n) (n := n) X (tok _ _ _ _) rfl (f_kakugyoref10_Same_2_a X n) snil (by kernel_rfl) rfl (fun p (v : (f_kakugyoref10_Same_2_l0_c n).s.X) => f_kakugyoref10_Same_2_l0_i n p v.1.2.2 v.2) (fun _ => rfl) (f_kakugyoref10_Same_2_l0_k n) (fun _ => rfl)
theorem f_kakugyoref10_Same_2_k (n : Nat) (x : (f_kakugyoref10_Same_2_c n).a.X × (f_kakugyoref10_Same_2_c n).b.X) : run (f_kakugyoref10_Same_2_e n) (bodyOf Tryz.f23) (entry Tryz.f23.ntmps ((f_kakugyoref10_Same_2_c n).a.enc x.1) ((f_kakugyoref10_Same_2_c n).b.enc x.2)) (kfin (f_kakugyoref10_Same_2_e n) Tryz.f23 (f_kakugyoref10_Same_2_c n) (f_kakugyoref10_Same_2_c n).b.n) = (f_kakugyoref10_Same_2_c n).f x := by kernel_rfl
theorem f_kakugyoref10_Same_2_ok (X : Cx Tryz.prog K Gl) (n : Nat) : FOk Tryz.prog K Gl 23 (f_kakugyoref10_Same_2_c n) := func_ok (E := f_kakugyoref10_Same_2_e n) (fn := Tryz.f23) (cf := (f_kakugyoref10_Same_2_c n)) (os := [(.block 0 (.loop (lbody 0 (bodyOf Tryz.f23))), f_kakugyoref10_Same_2_l0_c n)]) X (tok _ _ _ _) rfl (f_kakugyoref10_Same_2_a X n) (scons (f_kakugyoref10_Same_2_l0_o X n) snil) (by kernel_rfl) Tryz.func23 (by kernel_rfl) (f_kakugyoref10_Same_2_k n)
def f_kakugyolaw22_like_2 (n : Nat) (a0 : Int × ByteArray × ByteArray × ByteArray × List Int × Unit × Int × Int × Unit) (bv1 : Int × ByteArray × ByteArray × ByteArray × List Int × Unit × Int × Int × Unit) (b0 : List (Int × Int × Int × Bool × Unit)) : Option (Bool × (List (Int × Int × Int × Bool × Unit)) × Unit) :=
 Br (eq a0.1 bv1.1)
  (Br (seq a0.2.1 bv1.2.1)
   (Br (seq a0.2.2.1 bv1.2.2.1)
    (Br (seq a0.2.2.2.1 bv1.2.2.2.1)
     (Br (List.beq a0.2.2.2.2.1 bv1.2.2.2.2.1)
      (Br (eq a0.2.2.2.2.2.2.1 bv1.2.2.2.2.2.2.1)
       (Br (eq a0.2.2.2.2.2.2.2.1 bv1.2.2.2.2.2.2.2.1)
        (ob (f_kakugyoref10_Same_2 n b0) fun y1 =>
        some (y1.1, b0, ()))
        (some (false, b0, ())))
       (some (false, b0, ())))
      (some (false, b0, ())))
     (some (false, b0, ())))
    (some (false, b0, ())))
   (some (false, b0, ())))
  (some (false, b0, ()))
def f_kakugyolaw22_like_2_c (n : Nat) : Cf := ⟨.c (.t (.p (.i .i64) (.p (.s) (.p (.s) (.p (.s) (.p (.a .i8 98) (.p (.r .s) (.p (.i .i64) (.p (.i .i64) (.u))))))))) [.w 0]) (.t (.p (.i .i64) (.p (.s) (.p (.s) (.p (.s) (.p (.a .i8 98) (.p (.r .s) (.p (.i .i64) (.p (.i .i64) (.u))))))))) [.ns]), .w 82 (.p (.i .i64) (.p (.i .i64) (.p (.i .i64) (.p (.b) (.u))))) true, [⟨.t (.b) [], .w 82 (.p (.i .i64) (.p (.i .i64) (.p (.i .i64) (.p (.b) (.u))))) true, .e⟩], fun x => f_kakugyolaw22_like_2 n x.1.1 x.1.2 x.2⟩
def f_kakugyolaw22_like_2_e (n : Nat) : Env := en [(23, f_kakugyoref10_Same_2_c n)] [] [] []
theorem f_kakugyolaw22_like_2_a (X : Cx Tryz.prog K Gl) (n : Nat) : FAll Tryz.prog K Gl [(23, f_kakugyoref10_Same_2_c n)] := (fcons (f_kakugyoref10_Same_2_ok X n) fnil)
theorem f_kakugyolaw22_like_2_k (n : Nat) (x : (f_kakugyolaw22_like_2_c n).a.X × (f_kakugyolaw22_like_2_c n).b.X) : run (f_kakugyolaw22_like_2_e n) (bodyOf Tryz.f14) (entry Tryz.f14.ntmps ((f_kakugyolaw22_like_2_c n).a.enc x.1) ((f_kakugyolaw22_like_2_c n).b.enc x.2)) (kfin (f_kakugyolaw22_like_2_e n) Tryz.f14 (f_kakugyolaw22_like_2_c n) (f_kakugyolaw22_like_2_c n).b.n) = (f_kakugyolaw22_like_2_c n).f x := by kernel_rfl
theorem f_kakugyolaw22_like_2_ok (X : Cx Tryz.prog K Gl) (n : Nat) : FOk Tryz.prog K Gl 14 (f_kakugyolaw22_like_2_c n) := func_ok (E := f_kakugyolaw22_like_2_e n) (fn := Tryz.f14) (cf := (f_kakugyolaw22_like_2_c n)) (os := []) X (tok _ _ _ _) rfl (f_kakugyolaw22_like_2_a X n) snil (by kernel_rfl) Tryz.func14 (by kernel_rfl) (f_kakugyolaw22_like_2_k n)
def f_kakugyoref10_Same_3_l0_s (n : Nat) (r : Int → (List (Int × Int × Int × Bool × Unit)) → (List (Int × Int × Int × Bool × Unit)) → Option ((Bool × (List (Int × Int × Int × Bool × Unit)) × List (Int × Int × Int × Bool × Unit)) ⊕ (Unit × (List (Int × Int × Int × Bool × Unit)) × List (Int × Int × Int × Bool × Unit)))) (i1 : Int) (h2 : List (Int × Int × Int × Bool × Unit)) (h3 : List (Int × Int × Int × Bool × Unit)) : Option ((Bool × (List (Int × Int × Int × Bool × Unit)) × List (Int × Int × Int × Bool × Unit)) ⊕ (Unit × (List (Int × Int × Int × Bool × Unit)) × List (Int × Int × Int × Bool × Unit))) :=
 Br (lt i1 (h2.length : Int))
  (Br (inr i1 (h2.length : Int))
   (Br (inr i1 (h3.length : Int))
    (Br (!((eq (h2.getD i1.toNat (0, 0, 0, false, ())).1 (h3.getD i1.toNat (0, 0, 0, false, ())).1) && ((eq (h2.getD i1.toNat (0, 0, 0, false, ())).2.1 (h3.getD i1.toNat (0, 0, 0, false, ())).2.1) && ((eq (h2.getD i1.toNat (0, 0, 0, false, ())).2.2.1 (h3.getD i1.toNat (0, 0, 0, false, ())).2.2.1) && ((h2.getD i1.toNat (0, 0, 0, false, ())).2.2.2.1 == (h3.getD i1.toNat (0, 0, 0, false, ())).2.2.2.1)))))
     (some (.inl (false, h2, h3)))
     (r (wa .i64 i1 1) h2 h3))
    (none))
   (none))
  (some (.inr ((), h2, h3)))
def f_kakugyoref10_Same_3_l0_i (n : Nat) : Nat → Int → (List (Int × Int × Int × Bool × Unit)) → (List (Int × Int × Int × Bool × Unit)) → Option ((Bool × (List (Int × Int × Int × Bool × Unit)) × List (Int × Int × Int × Bool × Unit)) ⊕ (Unit × (List (Int × Int × Int × Bool × Unit)) × List (Int × Int × Int × Bool × Unit)))
 | 0, _, _, _ => none
 | m + 1, i1, h2, h3 => f_kakugyoref10_Same_3_l0_s n (f_kakugyoref10_Same_3_l0_i n m) i1 h2 h3
def f_kakugyoref10_Same_3_l0 (n : Nat) := f_kakugyoref10_Same_3_l0_i n n
def f_kakugyoref10_Same_3 (n : Nat) (b0 : List (Int × Int × Int × Bool × Unit)) (b1 : List (Int × Int × Int × Bool × Unit)) : Option (Bool × ((List (Int × Int × Int × Bool × Unit)) × List (Int × Int × Int × Bool × Unit)) × Unit) :=
 Br (!(eq (b0.length : Int) (b1.length : Int)))
  (some (false, (b0, b1), ()))
  (ob (f_kakugyoref10_Same_3_l0 n 0 b0 b1) fun y7 =>
  sm y7 (fun y8 =>
   some (y8.1, (y8.2.1, y8.2.2), ()))
   (fun y9 =>
   some (true, (y9.2.1, y9.2.2), ())))
def f_kakugyoref10_Same_3_c (n : Nat) : Cf := ⟨.c (.t (.r .s) [.w 0]) (.t (.r .s) [.w 1]), .c (.w 82 (.p (.i .i64) (.p (.i .i64) (.p (.i .i64) (.p (.b) (.u))))) false) (.w 82 (.p (.i .i64) (.p (.i .i64) (.p (.i .i64) (.p (.b) (.u))))) false), [⟨.t (.b) [], .c (.w 82 (.p (.i .i64) (.p (.i .i64) (.p (.i .i64) (.p (.b) (.u))))) false) (.w 82 (.p (.i .i64) (.p (.i .i64) (.p (.i .i64) (.p (.b) (.u))))) false), .e⟩], fun x => f_kakugyoref10_Same_3 n x.2.1 x.2.2⟩
def f_kakugyoref10_Same_3_l0_c (n : Nat) : Cs := ⟨2, [], ⟨[0, 1, 5], .c (.t (.r .s) [.w 0]) (.c (.t (.r .s) [.w 1]) (.t (.i .i64) [])), .c (.w 82 (.p (.i .i64) (.p (.i .i64) (.p (.i .i64) (.p (.b) (.u))))) false) (.w 82 (.p (.i .i64) (.p (.i .i64) (.p (.i .i64) (.p (.b) (.u))))) false)⟩, [⟨1, ⟨[4], .t (.b) [], .c (.w 82 (.p (.i .i64) (.p (.i .i64) (.p (.i .i64) (.p (.b) (.u))))) false) (.w 82 (.p (.i .i64) (.p (.i .i64) (.p (.i .i64) (.p (.b) (.u))))) false)⟩⟩, ⟨0, ⟨[], .e, .c (.w 82 (.p (.i .i64) (.p (.i .i64) (.p (.i .i64) (.p (.b) (.u))))) false) (.w 82 (.p (.i .i64) (.p (.i .i64) (.p (.i .i64) (.p (.b) (.u))))) false)⟩⟩], fun v => f_kakugyoref10_Same_3_l0 n v.1.2.2 v.2.1 v.2.2⟩
def f_kakugyoref10_Same_3_e (n : Nat) : Env := en [] [] [] [(0, f_kakugyoref10_Same_3_l0_c n)]
theorem f_kakugyoref10_Same_3_a (X : Cx Tryz.prog K Gl) (n : Nat) : FAll Tryz.prog K Gl [] := fnil
theorem f_kakugyoref10_Same_3_l0_k (n : Nat) (p : Nat) (v : (f_kakugyoref10_Same_3_l0_c n).s.X) : run (f_kakugyoref10_Same_3_e n) (lbody 0 (bodyOf Tryz.f23)) ((f_kakugyoref10_Same_3_l0_c n).s.st Tryz.f23.ntmps v) (kloop 0 (f_kakugyoref10_Same_3_l0_c n) (fun v => f_kakugyoref10_Same_3_l0_i n p v.1.2.2 v.2.1 v.2.2)) = f_kakugyoref10_Same_3_l0_i n (p + 1) v.1.2.2 v.2.1 v.2.2 := by kernel_rfl
theorem f_kakugyoref10_Same_3_l0_o (X : Cx Tryz.prog K Gl) (n : Nat) : SO Tryz.prog K Gl Tryz.f23.ntmps 2 (.block 0 (.loop (lbody 0 (bodyOf Tryz.f23)))) (f_kakugyoref10_Same_3_l0_c n) := loop_ok (E := f_kakugyoref10_Same_3_e n) (os := []) (s := f_kakugyoref10_Same_3_l0_c n) (n := n) X (tok _ _ _ _) rfl (f_kakugyoref10_Same_3_a X n) snil (by kernel_rfl) rfl (fun p (v : (f_kakugyoref10_Same_3_l0_c n).s.X) => f_kakugyoref10_Same_3_l0_i n p v.1.2.2 v.2.1 v.2.2) (fun _ => rfl) (f_kakugyoref10_Same_3_l0_k n) (fun _ => rfl)
theorem f_kakugyoref10_Same_3_k (n : Nat) (x : (f_kakugyoref10_Same_3_c n).a.X × (f_kakugyoref10_Same_3_c n).b.X) : run (f_kakugyoref10_Same_3_e n) (bodyOf Tryz.f23) (entry Tryz.f23.ntmps ((f_kakugyoref10_Same_3_c n).a.enc x.1) ((f_kakugyoref10_Same_3_c n).b.enc x.2)) (kfin (f_kakugyoref10_Same_3_e n) Tryz.f23 (f_kakugyoref10_Same_3_c n) (f_kakugyoref10_Same_3_c n).b.n) = (f_kakugyoref10_Same_3_c n).f x := by kernel_rfl
theorem f_kakugyoref10_Same_3_ok (X : Cx Tryz.prog K Gl) (n : Nat) : FOk Tryz.prog K Gl 23 (f_kakugyoref10_Same_3_c n) := func_ok (E := f_kakugyoref10_Same_3_e n) (fn := Tryz.f23) (cf := (f_kakugyoref10_Same_3_c n)) (os := [(.block 0 (.loop (lbody 0 (bodyOf Tryz.f23))), f_kakugyoref10_Same_3_l0_c n)]) X (tok _ _ _ _) rfl (f_kakugyoref10_Same_3_a X n) (scons (f_kakugyoref10_Same_3_l0_o X n) snil) (by kernel_rfl) Tryz.func23 (by kernel_rfl) (f_kakugyoref10_Same_3_k n)
def f_kakugyolaw22_like_3 (n : Nat) (a0 : Int × ByteArray × ByteArray × ByteArray × List Int × Unit × Int × Int × Unit) (bv1 : Int × ByteArray × ByteArray × ByteArray × List Int × Unit × Int × Int × Unit) (b0 : List (Int × Int × Int × Bool × Unit)) (b1 : List (Int × Int × Int × Bool × Unit)) : Option (Bool × ((List (Int × Int × Int × Bool × Unit)) × List (Int × Int × Int × Bool × Unit)) × Unit) :=
 Br (eq a0.1 bv1.1)
  (Br (seq a0.2.1 bv1.2.1)
   (Br (seq a0.2.2.1 bv1.2.2.1)
    (Br (seq a0.2.2.2.1 bv1.2.2.2.1)
     (Br (List.beq a0.2.2.2.2.1 bv1.2.2.2.2.1)
      (Br (eq a0.2.2.2.2.2.2.1 bv1.2.2.2.2.2.2.1)
       (Br (eq a0.2.2.2.2.2.2.2.1 bv1.2.2.2.2.2.2.2.1)
        (ob (f_kakugyoref10_Same_3 n b0 b1) fun y1 =>
        some (y1.1, (b0, b1), ()))
        (some (false, (b0, b1), ())))
       (some (false, (b0, b1), ())))
      (some (false, (b0, b1), ())))
     (some (false, (b0, b1), ())))
    (some (false, (b0, b1), ())))
   (some (false, (b0, b1), ())))
  (some (false, (b0, b1), ()))
def f_kakugyolaw22_like_3_c (n : Nat) : Cf := ⟨.c (.t (.p (.i .i64) (.p (.s) (.p (.s) (.p (.s) (.p (.a .i8 98) (.p (.r .s) (.p (.i .i64) (.p (.i .i64) (.u))))))))) [.w 0]) (.t (.p (.i .i64) (.p (.s) (.p (.s) (.p (.s) (.p (.a .i8 98) (.p (.r .s) (.p (.i .i64) (.p (.i .i64) (.u))))))))) [.w 1]), .c (.w 82 (.p (.i .i64) (.p (.i .i64) (.p (.i .i64) (.p (.b) (.u))))) true) (.w 82 (.p (.i .i64) (.p (.i .i64) (.p (.i .i64) (.p (.b) (.u))))) true), [⟨.t (.b) [], .c (.w 82 (.p (.i .i64) (.p (.i .i64) (.p (.i .i64) (.p (.b) (.u))))) true) (.w 82 (.p (.i .i64) (.p (.i .i64) (.p (.i .i64) (.p (.b) (.u))))) true), .e⟩], fun x => f_kakugyolaw22_like_3 n x.1.1 x.1.2 x.2.1 x.2.2⟩
def f_kakugyolaw22_like_3_e (n : Nat) : Env := en [(23, f_kakugyoref10_Same_3_c n)] [] [] []
theorem f_kakugyolaw22_like_3_a (X : Cx Tryz.prog K Gl) (n : Nat) : FAll Tryz.prog K Gl [(23, f_kakugyoref10_Same_3_c n)] := (fcons (f_kakugyoref10_Same_3_ok X n) fnil)
theorem f_kakugyolaw22_like_3_k (n : Nat) (x : (f_kakugyolaw22_like_3_c n).a.X × (f_kakugyolaw22_like_3_c n).b.X) : run (f_kakugyolaw22_like_3_e n) (bodyOf Tryz.f14) (entry Tryz.f14.ntmps ((f_kakugyolaw22_like_3_c n).a.enc x.1) ((f_kakugyolaw22_like_3_c n).b.enc x.2)) (kfin (f_kakugyolaw22_like_3_e n) Tryz.f14 (f_kakugyolaw22_like_3_c n) (f_kakugyolaw22_like_3_c n).b.n) = (f_kakugyolaw22_like_3_c n).f x := by kernel_rfl
theorem f_kakugyolaw22_like_3_ok (X : Cx Tryz.prog K Gl) (n : Nat) : FOk Tryz.prog K Gl 14 (f_kakugyolaw22_like_3_c n) := func_ok (E := f_kakugyolaw22_like_3_e n) (fn := Tryz.f14) (cf := (f_kakugyolaw22_like_3_c n)) (os := []) X (tok _ _ _ _) rfl (f_kakugyolaw22_like_3_a X n) snil (by kernel_rfl) Tryz.func14 (by kernel_rfl) (f_kakugyolaw22_like_3_k n)
end Go.AM.T
