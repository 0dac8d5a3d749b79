/- The law holds for every input: the program's own functions are walked, and what they compute is shown to answer as the law says. -/
import Derived.Test.YtigenhbmgpfffaaGreatDoorP32
import Derived.Test.YtigenhbmgpfffaaGreatDoorP41
import Derived.Test.YtigenhbmgpfffaaGreatDoorP39
namespace Go.Proofs.YtigenhbmgpfffaaGreatDoor.sfenPrints
open Go.ChangeShapes Go.WideShapes Go.ChangeAt Go.RowKit
open Go.ChangeMaps (open_string shut_string)
set_option linter.unusedVariables false
set_option maxRecDepth 100000 in
theorem contract (H:Type) (enc:TypeId×Value→H) (W:World) (base:Nat) (args:Array Value) (ds gs:List (DataW H)) (before:List MemPlace)
    (hval:∀ (j:Nat) t v,Tryz.f3.params[j]?=some t→args[j]?=some v→Value.okWide Tryz.prog W .any base t v)
    (hW:DataW.Whole enc Tryz.prog Tryz.f3.params.toList Rows.sfenPrintsSpec.vars false W args.toList ds gs before) (hL:laidMetH Tryz.prog Rows.sfenPrintsRow.laid W) (hsh:W.ShapedOpen Tryz.prog):
    Calls Tryz.prog 3 args W fun e W'=>∃ v,e=.returned v∧Rows.sfenPrintsSpec.post enc Tryz.prog Tryz.f3 false true false false W args v W':=by
  have hW':=hW;obtain ⟨p,q,hA0,hV,rfl,hfz,hnd⟩:=hW;have hA:DataW.TrodAll enc Tryz.prog W 0 (fun _=>true) true Tryz.f3.params.toList args.toList ds p:=hA0;rw [Tryz.params3] at hA hval;obtain ⟨v0,vs0,d0,ds0,p0,q0,hargs0,rfl,rfl,h0,r0⟩:=trodAll_cons hA;obtain ⟨v1,vs1,d1,ds1,p1,q1,hargs1,rfl,rfl,h1,r1⟩:=trodAll_cons r0;obtain ⟨rfl,rfl,rfl⟩:=trodAll_nil r1
  obtain rfl:args=#[v0,v1]:=by cases args;simp_all
  obtain ⟨rfl,rfl⟩:=trodVars_none hV;obtain ⟨a0,rfl,l0,rfl,w0,s0⟩:=Laid.open_ints_struct (n:=98) Tryz.underlying28 (by kernel_rfl) Laid.pos_ints Laid.pos_same (hval 0 28 v0 rfl rfl) h0;have g0:∀ i,(Lit.int .i8 (a0.getD i 0)).wf=true:=fun i=>Pl.wf_getD a0 w0 i;obtain ⟨a1,rfl,rfl,rfl,w1⟩:=open_int Tryz.underlying3 (hval 1 3 v1 rfl rfl) h1;have henv:Pa.Env W:=Laid.env hL hsh;clear hA0;refine (Pa.kakugyolaw13_SfenPrints.calls a0 a1 _ W henv l0 (fun n h=>⟨(Pl.rdig_is n h).1,(Pl.rdig_is n h).2.2⟩) (fun x h1 h2=>⟨(Pl.rname_is x ⟨h1,h2⟩).1,(Pl.rname_is x ⟨h1,h2⟩).2.2⟩) (fun i=>Pl.bnd_i8 (g0 i)) (Pl.print_mk a0 l0 g0 a1) (Pl.rprint_is a0 g0 a1) (Pl.prints_law a0 l0 g0 a1)).mono fun e W' ⟨he,bel⟩=>?_;subst he;exact ⟨_,rfl,_,_,_,[],_,[],hW',trodAll_mk1 (shut_bool Tryz.underlying4 _),(trodAll_cons_mk (s0 W' _ _ _) (trodAll_cons_mk (shut_int Tryz.underlying3 w1) trodAll_mk0)),rfl,bel.frame _,fun h=>by cases h⟩
theorem laid_met (os:Os):laidMet Tryz.prog Rows.sfenPrintsRow.laid ((Laid.laidWorld os).forCall (fun _ _=>0) ⟨#[],#[.agg ((List.replicate 98 (Value.int .i8 0)).toArray),.int .i64 0],[]⟩).memory:=
  laidMet_of_run' 8 (by kernel_rfl) (by kernel_rfl)
theorem reads (os:Os) {H:Type} (enc:TypeId×Value→H):∃ places,DataW.whole enc Tryz.prog ((Laid.laidWorld os).forCall (fun _ _=>0) ⟨#[],#[.agg ((List.replicate 98 (Value.int .i8 0)).toArray),.int .i64 0],[]⟩).memory Tryz.f3.params.toList Rows.sfenPrintsSpec.vars false #[Value.agg ((List.replicate 98 (Value.int .i8 0)).toArray),Value.int .i64 0].toList 8=some ([.agg [.agg (List.replicate 81 (.lit (.int .i8 0))),.agg [.agg (List.replicate 8 (.lit (.int .i8 0))),.agg (List.replicate 8 (.lit (.int .i8 0)))],.lit (.int .i8 0)],.lit (.int .i64 0)],[],places):=
  ⟨[],by kernel_rfl⟩
set_option maxRecDepth 100000 in
theorem lifted (os:Os) (started:os.Started) (H:Type) (enc:TypeId×Value→H) (F:Stop.Interp):
    ReturnsInHanded {} Tryz.checked os 3 .any ((OpenSpec.ofChange Rows.sfenPrintsSpec).preRow enc Tryz.prog Tryz.f3 Rows.sfenPrintsRow.domain false Rows.sfenPrintsRow.laid) (((OpenSpec.ofChange Rows.sfenPrintsSpec).at F).post enc Tryz.prog Tryz.f3 false true false false):=by
  obtain ⟨places,hx⟩:=reads os enc
  refine returnsInHanded_of_row (C := Tryz.checked) (s := OpenSpec.ofChange Rows.sfenPrintsSpec) Laid.own started (by kernel_rfl) Tryz.func3
    (witness_row_at (enc := enc) (C := Tryz.checked) false (Laid.laidWorld os) #[.agg ((List.replicate 98 (Value.int .i8 0)).toArray), .int .i64 0] rfl (by kernel_rfl) (by kernel_rfl) (by kernel_rfl)
      (OpenSpec.preRow_of_cond 8 hx (by kernel_rfl) (fun k hk=>by cases hk) (by kernel_rfl) (laid_met os))) ?_
  intro W base args ds gs before hval hW _ _ _ hL hsh _;exact contract H enc W base args ds gs before hval hW hL hsh
theorem said:Rows.SfenPrintsSaid:=
  OpenClaim.holds_of_cond 3 Tryz.f3 rfl rfl rfl rfl rfl rfl rfl ⟨rfl, rfl, rfl, rfl, rfl⟩ rfl rfl rfl rfl rfl (by kernel_rfl) Tryz.func3 (by kernel_rfl)
    (of_decide_eq_true (by kernel_rfl)) (by unfold Func.isWrapper;first|(rw [if_pos (by decide +kernel)];kernel_rfl)|(rw [if_neg (by decide +kernel)];exact ⟨rfl,rfl⟩))
    (fun os started H enc _ F=>by rw [OpenClaim.pre_eq_preRow];exact lifted os started H enc F)
theorem plain (f : FuncId) (fn : Func) (hf : Tryz.pinned.checked.prog.funcNamed "kakugyo/kakugyolaw13.SfenPrints" = some f) (hfn : Tryz.pinned.checked.prog.funcs[f]? = some fn) :
    true=Tryz.pinned.checked.prog.looks []∧∀ (j:Nat) t,fn.params[j]?=some t→Tryz.pinned.checked.prog.wantsStandIn t=false:=by
  obtain rfl : f = 3 := Option.some.inj ((show Tryz.prog.funcNamed "kakugyo/kakugyolaw13.SfenPrints" = some 3 by kernel_rfl).symm.trans hf) |>.symm
  obtain rfl:fn=Tryz.f3:=(Option.some.inj (Tryz.func3.symm.trans hfn)).symm;refine ⟨by kernel_rfl,fun j t ht=>?_⟩;rw [Tryz.params3] at ht
  have hm:t=28∨t=3:=by simpa using Array.mem_of_getElem? ht
  rcases hm with rfl|rfl
  · exact (show Tryz.prog.wantsStandIn 28=false by kernel_rfl)
  · exact (show Tryz.prog.wantsStandIn 3=false by kernel_rfl)
theorem card:Rows.SfenPrintsCardSaid:=
  Claim7.holds_tied_plain_at .later [] _ _ _ _ said (fun _ h=>by cases h) (by kernel_rfl) (fun _ h=>by cases h) sfenPrints_row_tie rfl ⟨rfl,rfl⟩ (by kernel_rfl) rfl plain (by kernel_rfl)
end Go.Proofs.YtigenhbmgpfffaaGreatDoor.sfenPrints
namespace Go.Proofs.YtigenhbmgpfffaaGreatDoor
theorem sfenPrints_holds:Rows.SfenPrintsCardSaid:=sfenPrints.card
end Go.Proofs.YtigenhbmgpfffaaGreatDoor
