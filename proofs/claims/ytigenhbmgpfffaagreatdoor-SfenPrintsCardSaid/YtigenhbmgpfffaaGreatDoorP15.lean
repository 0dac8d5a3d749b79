import Derived.Test.YtigenhbmgpfffaaGreatDoorProg
import Derived.Below
import Derived.Deep.Draws
import Derived.Deep.AppendLies
import Derived.Maps.AppendAt
import Derived.OwnWalk
import Derived.Laws.BytesArg
import Derived.Laws.MakeOwn
import Derived.Laws.OwnMore
import Derived.Deep.OwnRows
import Derived.Tactics
import Derived.Lib.ConvBytes
import Derived.Laws.Slices
import Derived.WalkKit
import Derived.KernelRfl
import Derived.RowKit3
import Derived.Deep.LoopGhost
import Derived.Deep.QuietTactic
import Derived.BigQuiet
import Derived.WideLaws
import Derived.Deep.DeepCutAuto
import Derived.Deep.CutBlock
import Derived.Deep.RegionHeld3
import Derived.Laws.Rows
import Derived.Lib.AppendStr
import Derived.ArgAppend
import Derived.Laws.IdiomCopy
import Derived.OrdersHeld
import Derived.Laws.BitsLemmas
import Derived.RowKit
import Derived.Lib.OthersKept
import Derived.Lib.Hide
import Derived.WalkSmall
import Derived.Outline
import Derived.LoopN
import Derived.Laws.Runes
import Derived.Laws.Cover4
import Derived.Lib.SlBytesConst
import Derived.IntWalk
import Derived.Lib.TrimU
import Derived.Deep.RegionWith
import Derived.Lib.LazyBuf
import Derived.Deep.MidRow
import Derived.ChangeKeysEq
import Derived.Test.YtigenhbmgpfffaaGreatDoorP13
import Derived.Test.YtigenhbmgpfffaaGreatDoorP14
import Derived.Lib.AppendIntMem
import Derived.Lib.ItoaLen
import Derived.Lib.AtoiErrMem
import Derived.Test.YtigenhbmgpfffaaGreatDoorP0
import Derived.Test.YtigenhbmgpfffaaGreatDoorP1
import Derived.Test.YtigenhbmgpfffaaGreatDoorP2
import Derived.Test.YtigenhbmgpfffaaGreatDoorP3
import Derived.Test.YtigenhbmgpfffaaGreatDoorP4
import Derived.Test.YtigenhbmgpfffaaGreatDoorP5
import Derived.Test.YtigenhbmgpfffaaGreatDoorP6
import Derived.Test.YtigenhbmgpfffaaGreatDoorP7
import Derived.Test.YtigenhbmgpfffaaGreatDoorP8
import Derived.Test.YtigenhbmgpfffaaGreatDoorP9
import Derived.Test.YtigenhbmgpfffaaGreatDoorP10
import Derived.Test.YtigenhbmgpfffaaGreatDoorP11
import Derived.Test.YtigenhbmgpfffaaGreatDoorP12
namespace Go.Proofs.YtigenhbmgpfffaaGreatDoor.Pa
open Go.RowKit Go.Proofs.YtigenhbmgpfffaaGreatDoorW.PrintWords Go.Proofs.YtigenhbmgpfffaaGreatDoorW.PrintLast Go.Proofs.YtigenhbmgpfffaaGreatDoorW.PrintMore
attribute [local go_sem] z7 zy yJ yI zq zp z6 zx
set_option linter.unusedVariables false
set_option linter.unusedSimpArgs false
def errW:Option Int→Value
  | none=>.nilIface
  | some c=>.iface 0 (.int .i64 c)
theorem jR:errW none=.nilIface:=rfl
theorem jQ (c:Int):errW (some c)=.iface 0 (.int .i64 c):=rfl
theorem info3:(Tryz.prog.info? 3).map (fun i=>(i.zero,i.size,i.bytes))=some (some (.int .i64 0),1,8):=by kernel_rfl
theorem info158:(Tryz.prog.info? 158).map (fun i=>(i.zero,i.size,i.bytes))=some (some (.agg #[(.int .i64 0),(.int .i64 0)]),2,16):=by kernel_rfl
structure S158 where
  f0:Int
  f1:Int
def z158:S158:=⟨(0:Int),(0:Int)⟩
def k158:Kd S158:=Kd.iso (Kd.pair (Kd.int .i64) (Kd.int .i64)) (fun x:S158=>(x.f0,x.f1))
theorem k158_open {w:World} {x:S158} {cs:List Value} (h:k158.K w x cs):cs=[.int .i64 x.f0,.int .i64 x.f1]:=by
  obtain ⟨_,_,rfl,rfl,rfl⟩:=h;exact rfl
theorem zN (w:World) (base:Nat) (ok:Nat→Prop) (x:S158)  : k158.M w base ok x [.int .i64 x.f0,.int .i64 x.f1]:=⟨[.int .i64 x.f0],[.int .i64 x.f1],rfl,rfl,rfl⟩
def jw (xs:List S158) (i:Int):S158:=xs.getD i.toNat z158
theorem at_T158 {w:World} {A:Option Addr} {n:Nat} {xs:List S158} (h:Kd.C k158 w A n xs) (i:Int) (h0:0≤i) (h1:i < n):∃ ad , A=some ad∧w.cell? (ad.add (i.toNat * 2))=some (.int .i64 (jw xs i).f0)∧w.cell? ⟨(ad.add (i.toNat * 2)).block,(ad.add (i.toNat * 2)).off+1,none⟩=some (.int .i64 (jw xs i).f1):=by
  obtain ⟨ad,c,e,_,hK,hc0⟩:=Kd.C_get h z158 i h0 h1;have hc:∀ j u,c[j]?=some u→w.cell? (ad.add (i.toNat * 2+j))=some u:=hc0;obtain rfl:=k158_open hK;exact ⟨ad,e,hc 0 _ rfl,by rw [← add_field _ _ 1 (by omega)];exact hc 1 _ rfl⟩
end Go.Proofs.YtigenhbmgpfffaaGreatDoor.Pa
