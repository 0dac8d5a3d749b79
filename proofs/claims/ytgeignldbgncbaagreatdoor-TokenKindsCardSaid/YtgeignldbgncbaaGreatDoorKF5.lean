/- What the functions compute, and that they do. -/
import Derived.Test.YtgeignldbgncbaaGreatDoorKFB
import Derived.Test.YtgeignldbgncbaaGreatDoorKL
set_option maxRecDepth 1000000
set_option linter.unusedVariables false
namespace Go.AM.T
open Go Go.AM Go.Proofs
def f_token_IsMate_6 (c0 : Int × Int × Unit) : ((Int × Unit) × Bool) × Unit × Unit :=
 (((0, ()), false), (), ())
def f_token_IsMate_6_c (n : Nat) : Cf := ⟨.fc 32 (.t (.p (.i .i64) (.p (.i .i64) (.u))) []), .e, [⟨.tu (.c (.t (.p (.i .i64) (.u)) []) (.t (.b) [])), .e, .e⟩], fun x => some (f_token_IsMate_6 x.1)⟩
def f_token_IsMate_6_e (n : Nat) : Env := en [] [] [] []
theorem f_token_IsMate_6_a (X : Cx Tryz.prog K Gl) (n : Nat) : FAll Tryz.prog K Gl [] := fnil
theorem f_token_IsMate_6_k (n : Nat) (x : (f_token_IsMate_6_c n).a.X × (f_token_IsMate_6_c n).b.X) : run (f_token_IsMate_6_e n) (bodyOf Tryz.f18) (entry Tryz.f18.ntmps ((f_token_IsMate_6_c n).a.enc x.1) ((f_token_IsMate_6_c n).b.enc x.2)) (kfin (f_token_IsMate_6_e n) Tryz.f18 (f_token_IsMate_6_c n) (f_token_IsMate_6_c n).b.n) = (f_token_IsMate_6_c n).f x := by kernel_rfl
theorem f_token_IsMate_6_ok (X : Cx Tryz.prog K Gl) (n : Nat) : FOk Tryz.prog K Gl 18 (f_token_IsMate_6_c n) := func_ok (E := f_token_IsMate_6_e n) (fn := Tryz.f18) (cf := (f_token_IsMate_6_c n)) (os := []) X (tok _ _ _ _) rfl (f_token_IsMate_6_a X n) snil (by kernel_rfl) Tryz.func18 (by kernel_rfl) (f_token_IsMate_6_k n)
def f_token_IsOption_6 (c0 : Int × Int × Unit) : ((ByteArray × ByteArray × Unit) × Bool) × Unit × Unit :=
 ((((⟨#[]⟩ : ByteArray), (⟨#[]⟩ : ByteArray), ()), false), (), ())
def f_token_IsOption_6_c (n : Nat) : Cf := ⟨.fc 32 (.t (.p (.i .i64) (.p (.i .i64) (.u))) []), .e, [⟨.tu (.c (.t (.p (.s) (.p (.s) (.u))) []) (.t (.b) [])), .e, .e⟩], fun x => some (f_token_IsOption_6 x.1)⟩
def f_token_IsOption_6_e (n : Nat) : Env := en [] [] [] []
theorem f_token_IsOption_6_a (X : Cx Tryz.prog K Gl) (n : Nat) : FAll Tryz.prog K Gl [] := fnil
theorem f_token_IsOption_6_k (n : Nat) (x : (f_token_IsOption_6_c n).a.X × (f_token_IsOption_6_c n).b.X) : run (f_token_IsOption_6_e n) (bodyOf Tryz.f19) (entry Tryz.f19.ntmps ((f_token_IsOption_6_c n).a.enc x.1) ((f_token_IsOption_6_c n).b.enc x.2)) (kfin (f_token_IsOption_6_e n) Tryz.f19 (f_token_IsOption_6_c n) (f_token_IsOption_6_c n).b.n) = (f_token_IsOption_6_c n).f x := by kernel_rfl
theorem f_token_IsOption_6_ok (X : Cx Tryz.prog K Gl) (n : Nat) : FOk Tryz.prog K Gl 19 (f_token_IsOption_6_c n) := func_ok (E := f_token_IsOption_6_e n) (fn := Tryz.f19) (cf := (f_token_IsOption_6_c n)) (os := []) X (tok _ _ _ _) rfl (f_token_IsOption_6_a X n) snil (by kernel_rfl) Tryz.func19 (by kernel_rfl) (f_token_IsOption_6_k n)
def f_token_Go_word (c0 : Int × Int × Unit) : ByteArray × Unit × Unit :=
 ((⟨#[103, 111]⟩ : ByteArray), (), ())
def f_token_Go_word_c (n : Nat) : Cf := ⟨.t (.p (.i .i64) (.p (.i .i64) (.u))) [], .e, [⟨.t (.s) [], .e, .e⟩], fun x => some (f_token_Go_word x.1)⟩
def f_token_Go_word_e (n : Nat) : Env := en [] [] [] []
theorem f_token_Go_word_a (X : Cx Tryz.prog K Gl) (n : Nat) : FAll Tryz.prog K Gl [] := fnil
theorem f_token_Go_word_k (n : Nat) (x : (f_token_Go_word_c n).a.X × (f_token_Go_word_c n).b.X) : run (f_token_Go_word_e n) (bodyOf Tryz.f191) (entry Tryz.f191.ntmps ((f_token_Go_word_c n).a.enc x.1) ((f_token_Go_word_c n).b.enc x.2)) (kfin (f_token_Go_word_e n) Tryz.f191 (f_token_Go_word_c n) (f_token_Go_word_c n).b.n) = (f_token_Go_word_c n).f x := by kernel_rfl
theorem f_token_Go_word_ok (X : Cx Tryz.prog K Gl) (n : Nat) : FOk Tryz.prog K Gl 191 (f_token_Go_word_c n) := func_ok (E := f_token_Go_word_e n) (fn := Tryz.f191) (cf := (f_token_Go_word_c n)) (os := []) X (tok _ _ _ _) rfl (f_token_Go_word_a X n) snil (by kernel_rfl) Tryz.func191 (by kernel_rfl) (f_token_Go_word_k n)
def f_token_Word_6 (c0 : Int × Int × Unit) : ByteArray × Unit × Unit :=
 ((f_token_Go_word c0).1, (), ())
def f_token_Word_6_c (n : Nat) : Cf := ⟨.fc 32 (.t (.p (.i .i64) (.p (.i .i64) (.u))) []), .e, [⟨.t (.s) [], .e, .e⟩], fun x => some (f_token_Word_6 x.1)⟩
def f_token_Word_6_e (n : Nat) : Env := en [(191, f_token_Go_word_c n)] [] [] []
theorem f_token_Word_6_a (X : Cx Tryz.prog K Gl) (n : Nat) : FAll Tryz.prog K Gl [(191, f_token_Go_word_c n)] := (fcons (f_token_Go_word_ok X n) fnil)
theorem f_token_Word_6_k (n : Nat) (x : (f_token_Word_6_c n).a.X × (f_token_Word_6_c n).b.X) : run (f_token_Word_6_e n) (bodyOf Tryz.f16) (entry Tryz.f16.ntmps ((f_token_Word_6_c n).a.enc x.1) ((f_token_Word_6_c n).b.enc x.2)) (kfin (f_token_Word_6_e n) Tryz.f16 (f_token_Word_6_c n) (f_token_Word_6_c n).b.n) = (f_token_Word_6_c n).f x := by kernel_rfl
theorem f_token_Word_6_ok (X : Cx Tryz.prog K Gl) (n : Nat) : FOk Tryz.prog K Gl 16 (f_token_Word_6_c n) := func_ok (E := f_token_Word_6_e n) (fn := Tryz.f16) (cf := (f_token_Word_6_c n)) (os := []) X (tok _ _ _ _) rfl (f_token_Word_6_a X n) snil (by kernel_rfl) Tryz.func16 (by kernel_rfl) (f_token_Word_6_k n)
end Go.AM.T
