import Derived.Test.YtigenhbmgpfffaaGreatDoorB32
import Derived.Test.YtigenhbmgpfffaaGreatDoorB45
/- The law holds for every input: the program's own functions are walked, and what they compute is shown to answer as the law says. -/
set_option maxRecDepth 100000
namespace Go.Proofs.YtigenhbmgpfffaaGreatDoor.sfenParses
open Go.ChangeShapes Go.WideShapes Go.ChangeAt Go.RowKit
open Go.ChangeMaps (open_string shut_string)
set_option linter.unusedVariables false
theorem contract (H:Type) (enc:TypeId×Value->H) (W:World) (base:Nat) (args:Array Value) (ds gs:List (DataW H)) (before:List MemPlace)
  (hval:∀(j:Nat) t v,Tryz.f4.params[j]?=some t->args[j]?=some v->Value.okWide Tryz.prog W .any base t v)
  (hW:DataW.Whole enc Tryz.prog Tryz.f4.params.toList Rows.sfenParsesSpec.vars false W args.toList ds gs before) (hL:laidMetH Tryz.prog Rows.sfenParsesRow.laid W) (hsh:W.ShapedOpen Tryz.prog):
  Calls Tryz.prog 4 args W λe W'=>∃v,e=.returned v/\Rows.sfenParsesSpec.post enc Tryz.prog Tryz.f4 false true false false W args v W':=by
 have hW':=hW;obtain⟨p,q,hA0,hV,rfl,hfz,hnd⟩:=hW;have hA:DataW.TrodAll enc Tryz.prog W 0 (λ_=>true) true Tryz.f4.params.toList args.toList ds p:=hA0;rw[Tryz.params4] at hA hval;obtain⟨v0,vs0,d0,ds0,p0,q0,hargs0,rfl,rfl,h0,r0⟩:=trodAll_cons hA;obtain⟨rfl,rfl,rfl⟩:=trodAll_nil r0
 obtain rfl:args=#[v0]:=by cases args;simp_all
 obtain⟨rfl,rfl⟩:=trodVars_none hV;obtain⟨a0,rfl,rfl,rfl,w0⟩:=open_string Tryz.underlying9 (hval 0 9 v0 rfl rfl) h0;have henv:Pa.Env W:=Laid.env hL hsh;clear hA0;refine(match Pl.parses_law a0 with|⟨cs,n,e,h1,h2,h3,h4⟩=>Pa.kakugyolaw13_SfenParses.calls a0 cs n e W henv (λn h=>⟨(Pl.rdig_is n h).1,(Pl.rdig_is n h).2.2⟩) (λx h1 h2=>⟨(Pl.rname_is x ⟨h1,h2⟩).1,(Pl.rname_is x ⟨h1,h2⟩).2.2⟩) (λx=>(Pl.rnamed_is x).1) Pl.rnumber_is Pl.split_total h1 h2 h3 h4).mono λe W' ⟨he,bel⟩=>?_;subst he;exact⟨_,rfl,_,_,_,[],_,[],hW',trodAll_mk1 (shut_bool Tryz.underlying4 _),(trodAll_cons_mk (shut_string Tryz.underlying9 w0) trodAll_mk0),rfl,bel.frame _,λh=>by cases h⟩
theorem laid_met (os:Os):laidMet Tryz.prog Rows.sfenParsesRow.laid ((Laid.laidWorld os).forCall (λ_ _=>0) ⟨#[],#[.string ⟨#[]⟩],[]⟩).memory:=
 laidMet_of_run' 8 (by kernel_rfl) (by kernel_rfl)
theorem reads (os:Os) {H:Type} (enc:TypeId×Value->H):∃places,DataW.whole enc Tryz.prog ((Laid.laidWorld os).forCall (λ_ _=>0) ⟨#[],#[.string ⟨#[]⟩],[]⟩).memory Tryz.f4.params.toList Rows.sfenParsesSpec.vars false #[Value.string ⟨#[]⟩].toList 8=some ([.lit (.string [])],[],places):=
 ⟨[],by kernel_rfl⟩
theorem lifted (os:Os) (started:os.Started) (H:Type) (enc:TypeId×Value->H) (F:Stop.Interp):
  ReturnsInHanded {} Tryz.checked os 4 .any ((OpenSpec.ofChange Rows.sfenParsesSpec).preRow enc Tryz.prog Tryz.f4 Rows.sfenParsesRow.domain false Rows.sfenParsesRow.laid) (((OpenSpec.ofChange Rows.sfenParsesSpec).at F).post enc Tryz.prog Tryz.f4 false true false false):=by
 obtain⟨places,hx⟩:=reads os enc
 refine returnsInHanded_of_row (C:=Tryz.checked) (s:=OpenSpec.ofChange Rows.sfenParsesSpec) Laid.own started (by kernel_rfl) Tryz.func4
  (witness_row_at (enc:=enc) (C:=Tryz.checked) false (Laid.laidWorld os) #[.string ⟨#[]⟩] rfl (by kernel_rfl) (by kernel_rfl) (by kernel_rfl)
   (OpenSpec.preRow_of_cond 8 hx (by kernel_rfl) (λk hk=>by cases hk) (by kernel_rfl) (laid_met os))) ?_
 intro W base args ds gs before hval hW _ _ _ hL hsh _;exact contract H enc W base args ds gs before hval hW hL hsh
theorem said:Rows.SfenParsesSaid:=
 OpenClaim.holds_of_cond 4 Tryz.f4 rfl rfl rfl rfl rfl rfl rfl ⟨rfl, rfl, rfl, rfl, rfl⟩ rfl rfl rfl rfl rfl (by kernel_rfl) Tryz.func4 (by kernel_rfl)
  (of_decide_eq_true (by kernel_rfl)) (by unfold Func.isWrapper;first|(rw[if_pos (by decide +kernel)];kernel_rfl)|(rw[if_neg (by decide +kernel)];exact⟨rfl,rfl⟩))
  (λos started H enc _ F=>by rw[OpenClaim.pre_eq_preRow];exact lifted os started H enc F)
theorem plain (f : FuncId) (fn : Func) (hf : Tryz.pinned.checked.prog.funcNamed "kakugyo/kakugyolaw13.SfenParses" = some f) (hfn : Tryz.pinned.checked.prog.funcs[f]? = some fn) :
  true=Tryz.pinned.checked.prog.looks []/\∀(j:Nat) t,fn.params[j]?=some t->Tryz.pinned.checked.prog.wantsStandIn t=false:=by
 obtain rfl : f = 4 := Option.some.inj ((show Tryz.prog.funcNamed "kakugyo/kakugyolaw13.SfenParses" = some 4 by kernel_rfl).symm.trans hf) |>.symm
 obtain rfl:fn=Tryz.f4:=(Option.some.inj (Tryz.func4.symm.trans hfn)).symm;refine⟨by kernel_rfl,λj t ht=>?_⟩;rw[Tryz.params4] at ht
 have hm:t=9:=by simpa using Array.mem_of_getElem? ht
 obtain rfl:=hm;exact(show Tryz.prog.wantsStandIn 9=false by kernel_rfl)
theorem card:Rows.SfenParsesCardSaid:=
 Claim7.holds_tied_plain_at .later [] _ _ _ _ said (λ_ h=>by cases h) (by kernel_rfl) (λ_ h=>by cases h) sfenParses_row_tie rfl ⟨rfl,rfl⟩ (by kernel_rfl) rfl plain (by kernel_rfl)
end Go.Proofs.YtigenhbmgpfffaaGreatDoor.sfenParses
namespace Go.Proofs.YtigenhbmgpfffaaGreatDoor
theorem sfenParses_holds:Rows.SfenParsesCardSaid:=sfenParses.card
end Go.Proofs.YtigenhbmgpfffaaGreatDoor
