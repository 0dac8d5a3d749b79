import Derived.Test.YtigenhbmgpfffaaGreatDoorCards
import Derived.Test.YtigenhbmgpfffaaGreatDoorTie
import Derived.Test.YtigenhbmgpfffaaGreatDoorB31
import Derived.ProofKit
import Derived.OpenShut
import Derived.ShutString
import Derived.ChangeOld
import Derived.SizedLaws
import Derived.Deep.Strs
import Derived.Deep.DeepHandedRow
import Derived.Lib.LaidTab
import Derived.Stop.LaidErr
import Derived.Shelf.Vars
namespace Go.Proofs.YtigenhbmgpfffaaGreatDoor.Laid
open Go.ChangeShapes Go.WideShapes Go.ChangeAt Go.RowKit
set_option linter.unusedVariables false
section
variable {P:Program}
end
theorem own:ownKnob Tryz.prog.godebug=none:=by kernel_rfl
def items : List (String × DataW Unit) := [("math/bits.deBruijn32tab", Rows.laid_math_bits_deBruijn32tab), ("math/bits.deBruijn64tab", Rows.laid_math_bits_deBruijn64tab), ("internal/strconv.uint64pow10", Rows.laid_internal_strconv_uint64pow10), ("unicode/utf8.acceptRanges", Rows.laid_unicode_utf8_acceptRanges), ("strconv.ErrRange", Rows.laid_strconv_ErrRange), ("strconv.ErrSyntax", Rows.laid_strconv_ErrSyntax), ("unicode/utf8.first", Rows.laid_unicode_utf8_first)]
theorem gTab : Tryz.prog.globalNamed "math/bits.deBruijn64tab" = some 6 := by kernel_rfl
theorem gTabType:(Tryz.prog.globals[6]?).map (·.type)=some 162:=by kernel_rfl
theorem cTab:Tryz.prog.cellsOf 162=64:=by kernel_rfl
theorem cU8:Tryz.prog.cellsOf 5=1:=by kernel_rfl
theorem gPow : Tryz.prog.globalNamed "internal/strconv.uint64pow10" = some 3 := by kernel_rfl
theorem gPowType:(Tryz.prog.globals[3]?).map (·.type)=some 138:=by kernel_rfl
theorem cPow:Tryz.prog.cellsOf 138=20:=by kernel_rfl
theorem cU64:Tryz.prog.cellsOf 86=1:=by kernel_rfl
theorem gSyn : Tryz.prog.globalNamed "strconv.ErrSyntax" = some 0 := by kernel_rfl
theorem gSynType:(Tryz.prog.globals[0]?).map (·.type)=some 56:=by kernel_rfl
theorem gRng : Tryz.prog.globalNamed "strconv.ErrRange" = some 1 := by kernel_rfl
theorem gRngType:(Tryz.prog.globals[1]?).map (·.type)=some 56:=by kernel_rfl
theorem star : "*" ++ "errors.errorString" = "*errors.errorString" := by decide
theorem rowE (u : TypeId) (h : Tryz.prog.typeName? 3 u = some "*errors.errorString") : u = 145 :=
 typeName_ptr_named (nm := "errors.errorString") (by rw [star]; kernel_rfl) (by kernel_rfl) (by decide) u (by rw [star]; exact h)
theorem cE:Tryz.prog.cellsOf 147=1:=by kernel_rfl
theorem cS:Tryz.prog.cellsOf 9=1:=by kernel_rfl
theorem env {W:World} (h:laidMetH Tryz.prog items W) (hsh:W.ShapedOpen Tryz.prog):Pa.Env W:=by
 have hM:laidMet Tryz.prog items W:=h;obtain⟨m,hm⟩:=Go.Proofs.cell_of_shapedOpen_int (g:=2) (zero:=#[.int .i64 0]) (t:=3) hsh (of_decide_eq_true (by kernel_rfl)) (by kernel_rfl) rfl (by kernel_rfl) (by kernel_rfl) Tryz.underlying3;obtain⟨a0,s0,hv0,_⟩:=laid_sentinel hM.tail.tail.tail.tail.tail gSyn gSynType Tryz.underlying56 rowE Tryz.underlying145 Tryz.underlying147 rfl rfl Tryz.underlying9 cE cS;obtain⟨a1,s1,hv1,_⟩:=laid_sentinel hM.tail.tail.tail.tail gRng gRngType Tryz.underlying56 rowE Tryz.underlying145 Tryz.underlying147 rfl rfl Tryz.underlying9 cE cS
 have c0:W.cell? ⟨0,0,none⟩=some (.iface 145 (.pointer (some a0))):=by simpa using World.var?_cell gSyn hv0 0
 have c1:W.cell? ⟨1,0,none⟩=some (.iface 145 (.pointer (some a1))):=by simpa using World.var?_cell gRng hv1 0
 refine⟨λi hi=>?_,?_,⟨m,hm⟩,⟨_,c0,.inr ⟨_,_,rfl⟩⟩,⟨_,c1,.inr ⟨_,_,rfl⟩⟩⟩
 ·exact(Lib.tabIs_of_head (zs:=Pa.bits_TrailingZeros64.tab) gTab gTabType Tryz.underlying162 Tryz.underlying5 cU8 cTab hM.tail).cell gTab i hi
 ·exact Lib.tabIs_of_head (zs:=Lib.pow10Tab) gPow gPowType Tryz.underlying138 Tryz.underlying86 cU64 cPow hM.tail.tail
def lit1:DataW Unit->List Value
 | .lit (.int k n)=>[.int k n]
 | _=>[]
def lit2:DataW Unit->List Value
 | .agg l=>l.flatMap lit1
 | d=>lit1 d
def lit3:DataW Unit->Array Value
 | .agg l=>(l.flatMap lit2).toArray
 | d=>(lit2 d).toArray
def putRow (w : World) (g : Nat) (cs : Array Value) : World := { w with heap := w.heap.modify g fun
      | .cells _ t frozen=>.cells cs t frozen
      | o=>o }
noncomputable def low:Nat:=(World.holding Tryz.prog default ⟨#[],#[],[]⟩).heap.size
noncomputable def laidWorld (os:Os):World:=
 let w0:=World.holding Tryz.prog os ⟨#[.cells #[.string ⟨#[105,110,118,97,108,105,100,32,115,121,110,116,97,120]⟩] 147,.cells #[.string ⟨#[118,97,108,117,101,32,111,117,116,32,111,102,32,114,97,110,103,101]⟩] 147],#[],[]⟩
 let w1:=putRow w0 0 #[.iface 145 (.pointer (some ⟨low,0,none⟩))]
 let w2:=putRow w1 1 #[.iface 145 (.pointer (some ⟨low+1,0,none⟩))]
 let w3:=putRow w2 7 (lit3 Rows.laid_math_bits_deBruijn32tab)
 let w4:=putRow w3 6 (lit3 Rows.laid_math_bits_deBruijn64tab)
 let w5:=putRow w4 3 (lit3 Rows.laid_internal_strconv_uint64pow10)
 let w6:=putRow w5 5 (lit3 Rows.laid_unicode_utf8_acceptRanges)
 let w7:=putRow w6 4 (lit3 Rows.laid_unicode_utf8_first)
 w7
end Go.Proofs.YtigenhbmgpfffaaGreatDoor.Laid
