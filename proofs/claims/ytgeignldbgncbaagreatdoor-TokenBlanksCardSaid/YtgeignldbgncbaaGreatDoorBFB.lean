/- The tables of types and methods. -/
import Derived.Test.YtgeignldbgncbaaGreatDoorKA4
import Derived.Test.YtgeignldbgncbaaGreatDoorProg
import Derived.KernelRfl
set_option maxRecDepth 1000000
set_option linter.unusedVariables false
namespace Go.AM.T
open Go Go.AM Go.Proofs
def tis : List (Nat × TI) := [(3, ⟨.i .i64, [], 0, none, 1, 0, .u⟩),
 (9, ⟨.s, [], 0, none, 1, 0, .u⟩),
 (21, ⟨.i .i32, [], 0, none, 1, 0, .u⟩),
 (23, ⟨.r .s, [], 0, none, 1, 9, .s⟩),
 (32, ⟨.p (.i .i64) (.p (.i .i64) (.u)), [(0, none), (1, none)], 0, none, 1, 0, .u⟩),
 (36, ⟨.i .i8, [], 0, none, 1, 0, .u⟩),
 (37, ⟨.i .i8, [], 0, none, 1, 0, .u⟩),
 (38, ⟨.a .i8 81, [], 81, none, 1, 37, .i .i8⟩),
 (39, ⟨.a .i8 8, [], 8, none, 1, 36, .i .i8⟩),
 (40, ⟨.a .i8 16, [], 2, some 8, 8, 39, .a .i8 8⟩),
 (42, ⟨.a .i8 98, [(0, some 81), (81, some 16), (97, none)], 0, none, 1, 0, .u⟩),
 (43, ⟨.r .s, [], 0, none, 1, 82, .p (.i .i64) (.p (.i .i64) (.p (.i .i64) (.p (.b) (.u))))⟩),
 (45, ⟨.p (.i .i64) (.p (.s) (.p (.s) (.p (.s) (.p (.a .i8 98) (.p (.r .s) (.p (.i .i64) (.p (.i .i64) (.u)))))))), [(0, none), (1, none), (2, none), (3, none), (4, some 98), (102, none), (103, none), (104, none)], 0, none, 1, 0, .u⟩),
 (54, ⟨.p (.a .i8 98) (.p (.r .s) (.u)), [(0, some 98), (98, none)], 0, none, 1, 0, .u⟩),
 (58, ⟨.p (.i .i64) (.u), [(0, none)], 0, none, 1, 0, .u⟩),
 (62, ⟨.p (.s) (.p (.s) (.u)), [(0, none), (1, none)], 0, none, 1, 0, .u⟩),
 (74, ⟨.p (.s) (.u), [(0, none)], 0, none, 1, 0, .u⟩),
 (82, ⟨.p (.i .i64) (.p (.i .i64) (.p (.i .i64) (.p (.b) (.u)))), [(0, none), (1, none), (2, none), (3, none)], 0, none, 1, 0, .u⟩),
 (87, ⟨.a .i64 9, [], 9, none, 1, 3, .i .i64⟩),
 (103, ⟨.r .s, [], 0, none, 1, 21, .i .i32⟩),
 (159, ⟨.a .i64 2, [], 2, none, 1, 3, .i .i64⟩),
 (160, ⟨.i .u64, [], 0, none, 1, 0, .u⟩),
 (162, ⟨.p (.i .u64) (.p (.i .u64) (.u)), [(0, none), (1, none)], 0, none, 1, 0, .u⟩),
 (164, ⟨.l 32 (.p (.i .u64) (.p (.i .u64) (.u))), [], 32, none, 2, 162, .p (.i .u64) (.p (.i .u64) (.u))⟩),
 (165, ⟨.l 2 (.p (.i .u64) (.p (.i .u64) (.u))), [], 2, none, 2, 162, .p (.i .u64) (.p (.i .u64) (.u))⟩),
 (167, ⟨.p (.a .i8 98) (.p (.l 32 (.p (.i .u64) (.p (.i .u64) (.u)))) (.p (.l 2 (.p (.i .u64) (.p (.i .u64) (.u)))) (.u))), [(0, some 98), (98, none), (162, none)], 0, none, 1, 0, .u⟩),
 (207, ⟨.r .s, [], 0, none, 1, 210, .p (.i .i64) (.p (.i .i64) (.u))⟩),
 (210, ⟨.p (.i .i64) (.p (.i .i64) (.u)), [(0, none), (1, none)], 0, none, 1, 0, .u⟩)]
def itfs : List Nat := [27, 115]
def mts : List (Nat × String × Nat) := [(32, "kakugyo/token.word", 191), (54, "kakugyo/token.word", 192), (58, "kakugyo/token.word", 193), (62, "kakugyo/token.word", 194), (74, "kakugyo/token.word", 195)]
def en (c : List (Nat × Cf)) (w : List (Nat × List Nat)) (j l : List (Nat × Cs)) : Env := ⟨lk tis, itfs.contains, lkM mts, lkA c, lk w, lkA j, lkA l⟩
theorem tok (c : List (Nat × Cf)) (w : List (Nat × List Nat)) (j l : List (Nat × Cs)) : TOk Tryz.prog (en c w j l) := tok_of (l := tis) (m := itfs) (by kernel_rfl) (by kernel_rfl) rfl rfl (ms := mts) (by kernel_rfl) rfl
end Go.AM.T
