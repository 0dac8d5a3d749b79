import Derived.Test.YtigenhbmgpfffaaGreatDoorB13
import Derived.Test.YtigenhbmgpfffaaGreatDoorB14
import Derived.Lib.AppendIntMem
import Derived.Lib.ItoaLen
import Derived.Lib.AtoiErrMem
namespace Go.Proofs.YtigenhbmgpfffaaGreatDoor.Pa
open Go.RowKit Go.Proofs.YtigenhbmgpfffaaGreatDoorW.PrintWords Go.Proofs.YtigenhbmgpfffaaGreatDoorW.PrintLast Go.Proofs.YtigenhbmgpfffaaGreatDoorW.PrintMore
attribute [local go_sem] yE yC yM yL zo zn yD yB
set_option linter.unusedVariables false
set_option linter.unusedSimpArgs false
def errW:Option Int->Value
 | none=>.nilIface
 | some c=>.iface 0 (.int .i64 c)
theorem jL:errW none=.nilIface:=rfl
theorem jK (c:Int):errW (some c)=.iface 0 (.int .i64 c):=rfl
theorem info3:(Tryz.prog.info? 3).map (λi=>(i.zero,i.size,i.bytes))=some (some (.int .i64 0),1,8):=by kernel_rfl
theorem info9:(Tryz.prog.info? 9).map (λi=>(i.zero,i.size,i.bytes))=some (some (.string ⟨#[]⟩),1,16):=by kernel_rfl
theorem info158:(Tryz.prog.info? 158).map (λi=>(i.zero,i.size,i.bytes))=some (some (.agg #[(.int .i64 0),(.int .i64 0)]),2,16):=by kernel_rfl
structure S158 where
 f0:Int
 f1:Int
def z158:S158:=⟨(0:Int),(0:Int)⟩
def k158:Kd S158:=Kd.iso (Kd.pair (Kd.int .i64) (Kd.int .i64)) (λx:S158=>(x.f0,x.f1))
theorem k158_open {w:World} {x:S158} {cs:List Value} (h:k158.K w x cs):cs=[.int .i64 x.f0,.int .i64 x.f1]:=by
 obtain⟨_,_,rfl,rfl,rfl⟩:=h;exact rfl
theorem zV (w:World) (base:Nat) (ok:Nat->Prop) (x:S158)  : k158.M w base ok x [.int .i64 x.f0,.int .i64 x.f1]:=⟨[.int .i64 x.f0],[.int .i64 x.f1],rfl,rfl,rfl⟩
def j8 (xs:List S158) (i:Int):S158:=xs.getD i.toNat z158
theorem at_T158 {w:World} {A:Option Addr} {n:Nat} {xs:List S158} (h:Kd.C k158 w A n xs) (i:Int) (h0:0<=i) (h1:i<n):∃ad , A=some ad/\w.cell? (ad.add (i.toNat*2))=some (.int .i64 (j8 xs i).f0)/\w.cell? ⟨(ad.add (i.toNat*2)).block,(ad.add (i.toNat*2)).off+1,none⟩=some (.int .i64 (j8 xs i).f1):=by
 obtain⟨ad,c,e,_,hK,hc0⟩:=Kd.C_get h z158 i h0 h1;have hc:∀j u,c[j]?=some u->w.cell? (ad.add (i.toNat*2+j))=some u:=hc0;obtain rfl:=k158_open hK;exact⟨ad,e,hc 0 _ rfl,by rw[<- add_field _ _ 1 (by omega)];exact hc 1 _ rfl⟩
end Go.Proofs.YtigenhbmgpfffaaGreatDoor.Pa
