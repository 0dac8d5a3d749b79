/- The statement TokenBlanks of the program, for every input, over every world in which the listed variables hold what the row lists. -/
import Derived.Test.YtgeignldbgncbaaGreatDoorCards
import Derived.Test.YtgeignldbgncbaaGreatDoorTie
import Derived.Test.YtgeignldbgncbaaGreatDoorBT
import Derived.WalkKit
import Derived.ProofKit
import Derived.OpenShut
import Derived.ShutString
import Derived.ChangeOld
import Derived.Below
import Derived.SizedLaws
import Derived.Deep.Strs
import Derived.Deep.DeepHandedRow
import Derived.Lib.LaidTab
import Derived.Stop.LaidErr
import Derived.Shelf.Vars
namespace Go.Proofs.YtgeignldbgncbaaGreatDoor.Laid
open Go.ChangeShapes Go.WideShapes Go.ChangeAt Go.RowKit
set_option linter.unusedVariables false
theorem own : ownKnob Tryz.prog.godebug = none := by kernel_rfl
def items : List (String × DataW Unit) := [("math/bits.deBruijn32tab", Rows.laid_math_bits_deBruijn32tab), ("math/bits.deBruijn64tab", Rows.laid_math_bits_deBruijn64tab), ("internal/strconv.uint64pow10", Rows.laid_internal_strconv_uint64pow10), ("unicode/utf8.acceptRanges", Rows.laid_unicode_utf8_acceptRanges), ("strconv.ErrRange", Rows.laid_strconv_ErrRange), ("strconv.ErrSyntax", Rows.laid_strconv_ErrSyntax), ("unicode/utf8.first", Rows.laid_unicode_utf8_first)]
theorem gTab : Tryz.prog.globalNamed "math/bits.deBruijn64tab" = some 7 := by kernel_rfl
theorem gTabType : (Tryz.prog.globals[7]?).map (·.type) = some 214 := by kernel_rfl
theorem cTab : Tryz.prog.cellsOf 214 = 64 := by kernel_rfl
theorem cU8 : Tryz.prog.cellsOf 5 = 1 := by kernel_rfl
theorem gPow : Tryz.prog.globalNamed "internal/strconv.uint64pow10" = some 5 := by kernel_rfl
theorem gPowType : (Tryz.prog.globals[5]?).map (·.type) = some 200 := by kernel_rfl
theorem cPow : Tryz.prog.cellsOf 200 = 20 := by kernel_rfl
theorem cU64 : Tryz.prog.cellsOf 160 = 1 := by kernel_rfl
theorem gSyn : Tryz.prog.globalNamed "strconv.ErrSyntax" = some 1 := by kernel_rfl
theorem gSynType : (Tryz.prog.globals[1]?).map (·.type) = some 115 := by kernel_rfl
theorem gRng : Tryz.prog.globalNamed "strconv.ErrRange" = some 2 := by kernel_rfl
theorem gRngType : (Tryz.prog.globals[2]?).map (·.type) = some 115 := by kernel_rfl
theorem star : "*" ++ "errors.errorString" = "*errors.errorString" := by decide
theorem rowE (u : TypeId) (h : Tryz.prog.typeName? 3 u = some "*errors.errorString") : u = 196 :=
  typeName_ptr_named (nm := "errors.errorString") (by rw [star]; kernel_rfl) (by kernel_rfl) (by decide) u (by rw [star]; exact h)
theorem cE : Tryz.prog.cellsOf 198 = 1 := by kernel_rfl
theorem cS : Tryz.prog.cellsOf 9 = 1 := by kernel_rfl
/-- What the list and the world's shape give. -/
theorem env {W : World} (h : laidMetH Tryz.prog items W) (hsh : W.ShapedOpen Tryz.prog) : Go.AM.T.Gv W := by
  have hM : laidMet Tryz.prog items W := h
  obtain ⟨m, hm⟩ := Go.Proofs.cell_of_shapedOpen_int (g := 0) (zero := #[.int .i64 0]) (t := 3) hsh (of_decide_eq_true (by kernel_rfl)) (by kernel_rfl) rfl (by kernel_rfl) (by kernel_rfl) Tryz.underlying3
  obtain ⟨a0, s0, hv0, _⟩ := laid_sentinel hM.tail.tail.tail.tail.tail gSyn gSynType Tryz.underlying115 rowE Tryz.underlying196 Tryz.underlying198 rfl rfl Tryz.underlying9 cE cS
  obtain ⟨a1, s1, hv1, _⟩ := laid_sentinel hM.tail.tail.tail.tail gRng gRngType Tryz.underlying115 rowE Tryz.underlying196 Tryz.underlying198 rfl rfl Tryz.underlying9 cE cS
  have c0 : W.cell? ⟨1, 0, none⟩ = some (.iface 196 (.pointer (some a0))) := by simpa using World.var?_cell gSyn hv0 0
  have c1 : W.cell? ⟨2, 0, none⟩ = some (.iface 196 (.pointer (some a1))) := by simpa using World.var?_cell gRng hv1 0
  refine ⟨fun i hi => ?_, ?_, ⟨m, hm⟩, ⟨_, c0, .inr ⟨_, _, rfl⟩⟩, ⟨_, c1, .inr ⟨_, _, rfl⟩⟩⟩
  · exact (Lib.tabIs_of_head (zs := Go.AM.T.tzT) gTab gTabType Tryz.underlying214 Tryz.underlying5 cU8 cTab hM.tail).cell gTab i hi
  · exact Lib.tabIs_of_head (zs := Lib.pow10Tab) gPow gPowType Tryz.underlying200 Tryz.underlying160 cU64 cPow hM.tail.tail
-- the world of the witness
def lit1 : DataW Unit → List Value
  | .lit (.int k n) => [.int k n]
  | _ => []
def lit2 : DataW Unit → List Value
  | .agg l => l.flatMap lit1
  | d => lit1 d
def lit3 : DataW Unit → Array Value
  | .agg l => (l.flatMap lit2).toArray
  | d => (lit2 d).toArray
def putRow (w : World) (g : Nat) (cs : Array Value) : World := { w with heap := w.heap.modify g fun
      | .cells _ t frozen => .cells cs t frozen
      | o => o }
noncomputable def low : Nat := (World.holding Tryz.prog default ⟨#[], #[], []⟩).heap.size
noncomputable def laidWorld (os : Os) : World :=
  let w0 := World.holding Tryz.prog os ⟨#[.cells #[.string ⟨#[105, 110, 118, 97, 108, 105, 100, 32, 115, 121, 110, 116, 97, 120]⟩] 198, .cells #[.string ⟨#[118, 97, 108, 117, 101, 32, 111, 117, 116, 32, 111, 102, 32, 114, 97, 110, 103, 101]⟩] 198], #[], []⟩
  let w1 := putRow w0 1 #[.iface 196 (.pointer (some ⟨low, 0, none⟩))]
  let w2 := putRow w1 2 #[.iface 196 (.pointer (some ⟨low + 1, 0, none⟩))]
  let w3 := putRow w2 6 (lit3 Rows.laid_math_bits_deBruijn32tab)
  let w4 := putRow w3 7 (lit3 Rows.laid_math_bits_deBruijn64tab)
  let w5 := putRow w4 5 (lit3 Rows.laid_internal_strconv_uint64pow10)
  let w6 := putRow w5 4 (lit3 Rows.laid_unicode_utf8_acceptRanges)
  let w7 := putRow w6 3 (lit3 Rows.laid_unicode_utf8_first)
  w7
end Go.Proofs.YtgeignldbgncbaaGreatDoor.Laid
namespace Go.Proofs.YtgeignldbgncbaaGreatDoor.tokenBlanks
open Go.ChangeShapes Go.WideShapes Go.ChangeAt Go.RowKit
open Go.ChangeMaps (open_string shut_string)
set_option linter.unusedVariables false
set_option maxRecDepth 100000 in
theorem contract (H : Type) (enc : TypeId × Value → H) (W : World) (base : Nat) (args : Array Value) (ds gs : List (DataW H)) (before : List MemPlace)
    (hval : ∀ (j : Nat) t v, Tryz.f5.params[j]? = some t → args[j]? = some v → Value.okWide Tryz.prog W .any base t v)
    (hW : DataW.Whole enc Tryz.prog Tryz.f5.params.toList Rows.tokenBlanksSpec.vars false W args.toList ds gs before) (hL : laidMetH Tryz.prog Rows.tokenBlanksRow.laid W) (hsh : W.ShapedOpen Tryz.prog) :
    Calls Tryz.prog 5 args W fun e W' => ∃ v, e = .returned v ∧ Rows.tokenBlanksSpec.post enc Tryz.prog Tryz.f5 false true false false W args v W' := by
  have hW' := hW
  obtain ⟨p, q, hA0, hV, rfl, hfz, hnd⟩ := hW
  have hA : DataW.TrodAll enc Tryz.prog W 0 (fun _ => true) true Tryz.f5.params.toList args.toList ds p := hA0
  rw [Tryz.params5] at hA hval
  obtain ⟨v0, vs0, d0, ds0, p0, q0, hargs0, rfl, rfl, h0, r0⟩ := trodAll_cons hA
  obtain ⟨v1, vs1, d1, ds1, p1, q1, hargs1, rfl, rfl, h1, r1⟩ := trodAll_cons r0
  obtain ⟨rfl, rfl, rfl⟩ := trodAll_nil r1
  obtain rfl : args = #[v0, v1] := by cases args; simp_all
  obtain ⟨rfl, rfl⟩ := trodVars_none hV
  obtain ⟨a0, rfl, rfl, rfl, w0⟩ := open_string Tryz.underlying9 (hval 0 9 v0 rfl rfl) h0
  obtain ⟨a1, rfl, rfl, rfl, w1⟩ := open_string Tryz.underlying9 (hval 1 9 v1 rfl rfl) h1
  have henv : Go.AM.T.Gv W := Laid.env hL hsh
  clear hA0
  refine (Go.AM.T.blanks_calls a0 a1 W henv).mono fun e W' ⟨he, bel⟩ => ?_
  subst he
  exact ⟨_, rfl, _, _, _, [], _, [], hW', trodAll_mk1 (shut_bool Tryz.underlying4 _), (trodAll_cons_mk (shut_string Tryz.underlying9 w0) (trodAll_cons_mk (shut_string Tryz.underlying9 w1) trodAll_mk0)), rfl, bel.frame _, fun h => by cases h⟩
theorem laid_met (os : Os) : laidMet Tryz.prog Rows.tokenBlanksRow.laid ((Laid.laidWorld os).forCall (fun _ _ => 0) ⟨#[], #[.string ⟨#[]⟩, .string ⟨#[]⟩], []⟩).memory :=
  laidMet_of_run' 8 (by kernel_rfl) (by kernel_rfl)
theorem reads (os : Os) {H : Type} (enc : TypeId × Value → H) : ∃ places, DataW.whole enc Tryz.prog ((Laid.laidWorld os).forCall (fun _ _ => 0) ⟨#[], #[.string ⟨#[]⟩, .string ⟨#[]⟩], []⟩).memory Tryz.f5.params.toList Rows.tokenBlanksSpec.vars false #[Value.string ⟨#[]⟩, Value.string ⟨#[]⟩].toList 8 = some ([.lit (.string []), .lit (.string [])], [], places) :=
  ⟨[], by kernel_rfl⟩
set_option maxRecDepth 100000 in
theorem lifted (os : Os) (started : os.Started) (H : Type) (enc : TypeId × Value → H) (F : Stop.Interp) :
    ReturnsInHanded {} Tryz.checked os 5 .any ((OpenSpec.ofChange Rows.tokenBlanksSpec).preRow enc Tryz.prog Tryz.f5 Rows.tokenBlanksRow.domain false Rows.tokenBlanksRow.laid) (((OpenSpec.ofChange Rows.tokenBlanksSpec).at F).post enc Tryz.prog Tryz.f5 false true false false) := by
  obtain ⟨places, hx⟩ := reads os enc
  refine returnsInHanded_of_row (C := Tryz.checked) (s := OpenSpec.ofChange Rows.tokenBlanksSpec) Laid.own started (by kernel_rfl) Tryz.func5
    (witness_row_at (enc := enc) (C := Tryz.checked) false (Laid.laidWorld os) #[.string ⟨#[]⟩, .string ⟨#[]⟩] rfl (by kernel_rfl) (by kernel_rfl) (by kernel_rfl)
      (OpenSpec.preRow_of_cond 8 hx (by kernel_rfl) (fun k hk => by cases hk) (by kernel_rfl) (laid_met os))) ?_
  intro W base args ds gs before hval hW _ _ _ hL hsh _
  exact contract H enc W base args ds gs before hval hW hL hsh
theorem said : Rows.TokenBlanksSaid :=
  OpenClaim.holds_of_cond 5 Tryz.f5 rfl rfl rfl rfl rfl rfl rfl ⟨rfl, rfl, rfl, rfl, rfl⟩ rfl rfl rfl rfl rfl (by kernel_rfl) Tryz.func5 (by kernel_rfl)
    (of_decide_eq_true (by kernel_rfl)) (by unfold Func.isWrapper; first | (rw [if_pos (by decide +kernel)]; kernel_rfl) | (rw [if_neg (by decide +kernel)]; exact ⟨rfl, rfl⟩))
    (fun os started H enc _ F => by rw [OpenClaim.pre_eq_preRow]; exact lifted os started H enc F)
theorem plain (f : FuncId) (fn : Func) (hf : Tryz.pinned.checked.prog.funcNamed "kakugyo/kakugyolaw22.TokenBlanks" = some f) (hfn : Tryz.pinned.checked.prog.funcs[f]? = some fn) :
    true = Tryz.pinned.checked.prog.looks [] ∧ ∀ (j : Nat) t, fn.params[j]? = some t → Tryz.pinned.checked.prog.wantsStandIn t = false := by
  obtain rfl : f = 5 := Option.some.inj ((show Tryz.prog.funcNamed "kakugyo/kakugyolaw22.TokenBlanks" = some 5 by kernel_rfl).symm.trans hf) |>.symm
  obtain rfl : fn = Tryz.f5 := (Option.some.inj (Tryz.func5.symm.trans hfn)).symm
  refine ⟨by kernel_rfl, fun j t ht => ?_⟩
  rw [Tryz.params5] at ht
  have hm : t = 9 ∨ t = 9 := by simpa using Array.mem_of_getElem? ht
  rcases hm with rfl | rfl
  · exact (show Tryz.prog.wantsStandIn 9 = false by kernel_rfl)
  · exact (show Tryz.prog.wantsStandIn 9 = false by kernel_rfl)
/-- The card. -/
theorem card : Rows.TokenBlanksCardSaid :=
  Claim7.holds_tied_plain_at .later [] _ _ _ _ said (fun _ h => by cases h) (by kernel_rfl) (fun _ h => by cases h) tokenBlanks_row_tie rfl ⟨rfl, rfl⟩ (by kernel_rfl) rfl plain (by kernel_rfl)
#print axioms card
end Go.Proofs.YtgeignldbgncbaaGreatDoor.tokenBlanks
namespace Go.Proofs.YtgeignldbgncbaaGreatDoor
/-- The card, under a short name, for the claim. -/
theorem tokenBlanks_holds : Rows.TokenBlanksCardSaid := tokenBlanks.card
end Go.Proofs.YtgeignldbgncbaaGreatDoor
