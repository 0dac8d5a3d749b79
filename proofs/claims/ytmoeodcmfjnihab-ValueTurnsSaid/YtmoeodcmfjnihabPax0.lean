-- Printed by a program of this session: the kit's printer, with contracts of this session's own among its functions.
import Derived.Test.YtmoeodcmfjnihabProg
import Derived.Below
import Derived.Deep.Draws
import Derived.Deep.AppendLies
import Derived.Maps.AppendAt
import Derived.OwnWalk
import Derived.Laws.BytesArg
import Derived.Laws.MakeOwn
import Derived.Laws.OwnMore
import Derived.Deep.OwnRows
import Derived.Tactics
import Derived.Lib.ConvBytes
import Derived.Laws.Slices
import Derived.WalkKit
import Derived.KernelRfl
import Derived.RowKit3
import Derived.Deep.LoopGhost
import Derived.Deep.QuietTactic
import Derived.BigQuiet
import Derived.WideLaws
import Derived.Deep.DeepCutAuto
import Derived.Deep.CutBlock
import Derived.Deep.RegionHeld3
import Derived.Laws.Rows
import Derived.Lib.AppendStr
import Derived.ArgAppend
import Derived.Laws.IdiomCopy
import Derived.OrdersHeld
import Derived.Laws.BitsLemmas
import Derived.RowKit
import Derived.Lib.OthersKept
import Derived.Lib.Hide
import Derived.WalkSmall
import Derived.Outline
import Derived.LoopN
import Derived.Laws.Runes
import Derived.Laws.Cover4
import Derived.Lib.SlBytesConst
import Derived.IntWalk
import Derived.Lib.TrimU
import Derived.Deep.RegionWith
import Derived.Lib.LazyBuf
import Derived.Deep.MidRow
import Derived.ChangeKeysEq
import Derived.Test.YtmoeodcmfjnihabWWords
import Derived.Test.YtmoeodcmfjnihabWLast
import Derived.Test.YtmoeodcmfjnihabWTab
import Derived.Test.YtmoeodcmfjnihabWFour
import Derived.Test.YtmoeodcmfjnihabWQPut
import Derived.Test.YtmoeodcmfjnihabWApart
import Derived.Test.YtmoeodcmfjnihabWArr
import Derived.Test.YtmoeodcmfjnihabWZeros
import Derived.Test.YtmoeodcmfjnihabWFoot
import Derived.Test.YtmoeodcmfjnihabWKept
import Derived.Test.YtmoeodcmfjnihabWShare
import Derived.Test.YtmoeodcmfjnihabWN
import Derived.Test.YtmoeodcmfjnihabWFootNe
import Derived.Test.YtmoeodcmfjnihabWAt
import Derived.Test.YtmoeodcmfjnihabWEqStruct
import Derived.Test.YtmoeodcmfjnihabWRepsOne
import Derived.Test.YtmoeodcmfjnihabWInv
import Derived.Test.YtmoeodcmfjnihabWInvWords
import Derived.Test.YtmoeodcmfjnihabWGuard
import Derived.Test.YtmoeodcmfjnihabWNEv
import Derived.Test.YtmoeodcmfjnihabWMore
namespace Go.Proofs.Ytmoeodcmfjnihab.Pa
open Go.RowKit Go.Proofs.YtmoeodcmfjnihabW.PrintWords Go.Proofs.YtmoeodcmfjnihabW.PrintLast Go.Proofs.YtmoeodcmfjnihabW.PrintMore
attribute [local go_sem] max2_int min2_int max_two min_two max_three min_three max_four min_four   -- for this text's walks alone
set_option linter.unusedVariables false
set_option linter.unusedSimpArgs false



def errW : Option Int → Value
  | none => .nilIface
  | some c => .iface 0 (.int .i64 c)
theorem errW_none : errW none = .nilIface := rfl
theorem errW_some (c : Int) : errW (some c) = .iface 0 (.int .i64 c) := rfl

theorem info3 : (Try.prog.info? 3).map (fun i => (i.zero, i.size, i.bytes)) = some (some (.int .i64 0), 1, 8) := by kernel_rfl
-- the values' own types

end Go.Proofs.Ytmoeodcmfjnihab.Pa
