-- Printed by a program of this session: the kit's printer, with contracts of this session's own among its functions.
import Derived.Test.YtnmfkhnddnohjabProg
import Derived.Below
import Derived.Deep.Draws
import Derived.Deep.AppendLies
import Derived.Maps.AppendAt
import Derived.OwnWalk
import Derived.Laws.BytesArg
import Derived.Laws.MakeOwn
import Derived.Laws.OwnMore
import Derived.Deep.OwnRows
import Derived.Tactics
import Derived.Lib.ConvBytes
import Derived.Laws.Slices
import Derived.WalkKit
import Derived.KernelRfl
import Derived.RowKit3
import Derived.Deep.LoopGhost
import Derived.Deep.QuietTactic
import Derived.BigQuiet
import Derived.WideLaws
import Derived.Deep.DeepCutAuto
import Derived.Deep.CutBlock
import Derived.Deep.RegionHeld3
import Derived.Laws.Rows
import Derived.Lib.AppendStr
import Derived.ArgAppend
import Derived.Laws.IdiomCopy
import Derived.OrdersHeld
import Derived.Laws.BitsLemmas
import Derived.RowKit
import Derived.Lib.OthersKept
import Derived.Lib.Hide
import Derived.WalkSmall
import Derived.Outline
import Derived.LoopN
import Derived.Laws.Runes
import Derived.Laws.Cover4
import Derived.Lib.SlBytesConst
import Derived.IntWalk
import Derived.Lib.TrimU
import Derived.Deep.RegionWith
import Derived.Test.YtnmfkhnddnohjabWWords
import Derived.Test.YtnmfkhnddnohjabWLast
import Derived.Test.YtnmfkhnddnohjabWTab
import Derived.Test.YtnmfkhnddnohjabWFour
import Derived.Test.YtnmfkhnddnohjabWQPut
import Derived.Test.YtnmfkhnddnohjabWApart
import Derived.Test.YtnmfkhnddnohjabWArr
import Derived.Test.YtnmfkhnddnohjabWZeros
import Derived.Test.YtnmfkhnddnohjabWFoot
import Derived.Test.YtnmfkhnddnohjabWKept
import Derived.Test.YtnmfkhnddnohjabWShare
import Derived.Test.YtnmfkhnddnohjabWN
import Derived.Test.YtnmfkhnddnohjabWFootNe
import Derived.Test.YtnmfkhnddnohjabWAt
import Derived.Test.YtnmfkhnddnohjabWEqStruct
import Derived.Test.YtnmfkhnddnohjabWRepsOne
import Derived.Test.YtnmfkhnddnohjabWInv
import Derived.Test.YtnmfkhnddnohjabWInvWords
import Derived.Test.YtnmfkhnddnohjabWGuard
import Derived.Test.YtnmfkhnddnohjabWNEv
import Derived.Test.YtnmfkhnddnohjabWMore
namespace Go.Proofs.Ytnmfkhnddnohjab.Pa
open Go.RowKit Go.Proofs.YtnmfkhnddnohjabW.PrintWords Go.Proofs.YtnmfkhnddnohjabW.PrintLast Go.Proofs.YtnmfkhnddnohjabW.PrintMore
attribute [local go_sem] max2_int min2_int max_two min_two max_three min_three max_four min_four   -- for this text's walks alone
set_option linter.unusedVariables false
set_option linter.unusedSimpArgs false



def errW : Option Int → Value
  | none => .nilIface
  | some c => .iface 0 (.int .i64 c)
theorem errW_none : errW none = .nilIface := rfl
theorem errW_some (c : Int) : errW (some c) = .iface 0 (.int .i64 c) := rfl

theorem info3 : (Try.prog.info? 3).map (fun i => (i.zero, i.size, i.bytes)) = some (some (.int .i64 0), 1, 8) := by kernel_rfl
theorem info5 : (Try.prog.info? 5).map (fun i => (i.zero, i.size, i.bytes)) = some (some (.int .u8 0), 1, 1) := by kernel_rfl
theorem info9 : (Try.prog.info? 9).map (fun i => (i.zero, i.size, i.bytes)) = some (some (.string ⟨#[]⟩), 1, 16) := by kernel_rfl
-- the values' own types

end Go.Proofs.Ytnmfkhnddnohjab.Pa
