import Derived.Test.YtigenhbmgpfffaaGreatDoorB15
namespace Go.Proofs.YtigenhbmgpfffaaGreatDoor.Pa
open Go.RowKit Go.Proofs.YtigenhbmgpfffaaGreatDoorW.PrintWords Go.Proofs.YtigenhbmgpfffaaGreatDoorW.PrintLast Go.Proofs.YtigenhbmgpfffaaGreatDoorW.PrintMore
attribute [local go_sem] yE yC yM yL zo zn yD yB
set_option linter.unusedVariables false
set_option linter.unusedSimpArgs false
theorem eqA88 (d:Nat) (w:World) (x0 y0:Int) (x1 y1:Int):
  (Op.equalIn (d+2) 88 (.agg #[.int .u64 x0,.int .u64 x1]) (.agg #[.int .u64 y0,.int .u64 y1])).run Tryz.prog w=.ok (x0==y0&&(x1==y1)) w:=by
 refine eqA_of Tryz.underlying88 (by kernel_rfl) ?_;refine eqf_cons (by rfl) (by go_simp;rfl) (by go_simp;rfl) (by go_simp) ?_;exact eqf_last (by rfl) (by go_simp;rfl) (by go_simp;rfl) (by go_simp)
end Go.Proofs.YtigenhbmgpfffaaGreatDoor.Pa
