-- Printed by a program of this session: the kit's printer, with contracts of this session's own among its functions.
import Derived.Test.YtmoeodcmfjnihabRows
import Derived.Test.YtmoeodcmfjnihabPax7
import Derived.Test.YtmoeodcmfjnihabPureValueTurns
import Derived.WalkKit
import Derived.ProofKit
import Derived.OpenShut
import Derived.ShutString
import Derived.ChangeOld
import Derived.Below
import Derived.SizedLaws
import Derived.Deep.Strs
namespace Go.Proofs.Ytmoeodcmfjnihab.valueTurns
open Go.ChangeShapes Go.WideShapes Go.ChangeAt Go.RowKit
open Go.ChangeMaps (open_string shut_string)
set_option linter.unusedVariables false
section
variable {P : Program}
def AllI (P : Program) (k : IntKind) (e : TypeId) : Prop := ∀ (H : Type) (enc : TypeId × Value → H) (w : World) (base : Nat) (spare : Nat → Bool) (held : Bool) (fuel : Nat) (cs : List Value) (x : DataW H × List MemPlace), DataW.trod enc P w base spare held fuel e cs = some x → (∀ v ∈ cs, ∃ z, v = .int k z ∧ (Lit.int k z).wf = true) ∧ x.2 = []
theorem allI_int {k : IntKind} {e : TypeId} (h : P.underlying e = some (.int k)) : AllI P k e := by
  intro H enc w base spare held fuel cs x hx
  obtain ⟨n, rfl, rfl, hw⟩ := DataW.trod_int h hx
  refine ⟨fun v hv => ?_, rfl⟩
  obtain rfl := List.mem_singleton.1 hv
  exact ⟨n, rfl, hw⟩
theorem allI_array {k : IntKind} {t e : TypeId} {n c : Nat} (ht : P.underlying t = some (.array n e)) (hc : P.cellsOf e = c) (h0 : 0 < c) (hn : P.cellsOf t = n * c) (he : AllI P k e) : AllI P k t := by
  intro H enc w base spare held fuel cs x hx
  obtain ⟨xs, m, _, rfl, hl, hxl, hf⟩ := DataW.trod_array ht hx
  have hg : ∀ i, i < n → (∀ v ∈ (cs.drop (i * c)).take c, ∃ z, v = .int k z ∧ (Lit.int k z).wf = true) ∧ ∀ y, xs[i]? = some y → y.2 = [] := fun i hi => by
    have e1 := hf i hi
    rw [hc] at e1
    have e2 : xs[i]? = some (xs[i]'(by omega)) := List.getElem?_eq_getElem (by omega)
    obtain ⟨g1, g2⟩ := he _ _ _ _ _ _ _ _ _ (e1.trans e2)
    refine ⟨g1, fun y hy => ?_⟩
    obtain rfl := Option.some.inj (hy.symm.trans e2)
    exact g2
  refine ⟨fun v hv => ?_, ?_⟩
  · obtain ⟨j, hj, rfl⟩ := List.mem_iff_getElem.1 hv
    have hjn : j < n * c := by omega
    have hi : j / c < n := by rw [Nat.div_lt_iff_lt_mul h0]; exact hjn
    refine (hg (j / c) hi).1 _ ?_
    have hm : j % c < c := Nat.mod_lt _ h0
    have hd : j / c * c + j % c = j := by rw [Nat.mul_comm]; exact Nat.div_add_mod j c
    rw [List.mem_iff_getElem?]
    exact ⟨j % c, by rw [List.getElem?_take_of_lt hm, List.getElem?_drop, hd, List.getElem?_eq_getElem hj]⟩
  · show xs.flatMap (·.2) = []
    rw [List.flatMap_eq_nil_iff]
    intro y hy
    obtain ⟨i, hi, rfl⟩ := List.mem_iff_getElem.1 hy
    exact (hg i (by omega)).2 _ (List.getElem?_eq_getElem hi)
theorem allI_struct3 {k : IntKind} {t : TypeId} {f0 f1 f2 : Field} {c0 c1 c2 : Nat} (ht : P.underlying t = some (.struct #[f0, f1, f2])) (o0 : f0.offset = 0) (o1 : f1.offset = c0) (o2 : f2.offset = c0 + c1)
    (h0 : P.cellsOf f0.type = c0) (h1 : P.cellsOf f1.type = c1) (h2 : P.cellsOf f2.type = c2) (hn : P.cellsOf t = c0 + c1 + c2) (e0 : AllI P k f0.type) (e1 : AllI P k f1.type) (e2 : AllI P k f2.type) : AllI P k t := by
  intro H enc w base spare held fuel cs x hx
  obtain ⟨y0, y1, y2, n, rfl, hl, r0, r1, r2⟩ := Go.Deep.trod_struct3 ht hx
  rw [o0, h0] at r0
  rw [o1, h1] at r1
  rw [o2, h2] at r2
  obtain ⟨g0, p0⟩ := e0 _ _ _ _ _ _ _ _ _ r0
  obtain ⟨g1, p1⟩ := e1 _ _ _ _ _ _ _ _ _ r1
  obtain ⟨g2, p2⟩ := e2 _ _ _ _ _ _ _ _ _ r2
  refine ⟨fun v hv => ?_, by show y0.2 ++ (y1.2 ++ y2.2) = []; rw [p0, p1, p2]; rfl⟩
  obtain ⟨j, hj, rfl⟩ := List.mem_iff_getElem.1 hv
  by_cases a0 : j < c0
  · refine g0 _ (List.mem_iff_getElem?.2 ⟨j, ?_⟩)
    rw [List.getElem?_take_of_lt a0, List.getElem?_drop, Nat.zero_add, List.getElem?_eq_getElem hj]
  · by_cases a1 : j < c0 + c1
    · refine g1 _ (List.mem_iff_getElem?.2 ⟨j - c0, ?_⟩)
      rw [List.getElem?_take_of_lt (by omega), List.getElem?_drop, show c0 + (j - c0) = j by omega, List.getElem?_eq_getElem hj]
    · refine g2 _ (List.mem_iff_getElem?.2 ⟨j - (c0 + c1), ?_⟩)
      rw [List.getElem?_take_of_lt (by omega), List.getElem?_drop, show c0 + c1 + (j - (c0 + c1)) = j by omega, List.getElem?_eq_getElem hj]
def SameT (P : Program) (e : TypeId) : Prop := ∀ (H : Type) (enc : TypeId × Value → H) (w w' : World) (base base' : Nat) (spare spare' : Nat → Bool) (held held' : Bool) (fuel : Nat) (cs : List Value), DataW.trod enc P w base spare held fuel e cs = DataW.trod enc P w' base' spare' held' fuel e cs
theorem same_int {k : IntKind} {e : TypeId} (h : P.underlying e = some (.int k)) : SameT P e := by
  intro H enc w w' base base' spare spare' held held' fuel cs
  cases fuel with
  | zero => rfl
  | succ n =>
    unfold DataW.trod
    rw [h]
    cases cs with
    | nil => rfl
    | cons v cs => cases cs <;> cases v <;> rfl
theorem same_array {t e : TypeId} {n : Nat} (ht : P.underlying t = some (.array n e)) (he : SameT P e) : SameT P t := by
  intro H enc w w' base base' spare spare' held held' fuel cs
  cases fuel with
  | zero => rfl
  | succ m =>
    unfold DataW.trod
    rw [ht]
    have e1 : (fun i => DataW.trod enc P w base spare held m e ((cs.drop (i * P.cellsOf e)).take (P.cellsOf e))) = fun i => DataW.trod enc P w' base' spare' held' m e ((cs.drop (i * P.cellsOf e)).take (P.cellsOf e)) := funext fun i => he H enc w w' base base' spare spare' held held' m _
    show (if cs.length = P.cellsOf t then ((List.range n).mapM fun i => DataW.trod enc P w base spare held m e ((cs.drop (i * P.cellsOf e)).take (P.cellsOf e))).map _ else none) = (if cs.length = P.cellsOf t then ((List.range n).mapM fun i => DataW.trod enc P w' base' spare' held' m e ((cs.drop (i * P.cellsOf e)).take (P.cellsOf e))).map _ else none)
    rw [e1]
theorem same_struct3 {t : TypeId} {f0 f1 f2 : Field} (ht : P.underlying t = some (.struct #[f0, f1, f2])) (e0 : SameT P f0.type) (e1 : SameT P f1.type) (e2 : SameT P f2.type) : SameT P t := by
  intro H enc w w' base base' spare spare' held held' fuel cs
  cases fuel with
  | zero => rfl
  | succ m =>
    unfold DataW.trod
    rw [ht]
    show (if cs.length = P.cellsOf t then ([f0, f1, f2].mapM fun f => DataW.trod enc P w base spare held m f.type ((cs.drop f.offset).take (P.cellsOf f.type))).map _ else none) = (if cs.length = P.cellsOf t then ([f0, f1, f2].mapM fun f => DataW.trod enc P w' base' spare' held' m f.type ((cs.drop f.offset).take (P.cellsOf f.type))).map _ else none)
    simp only [List.mapM_cons, List.mapM_nil, e0 H enc w w' base base' spare spare' held held' m, e1 H enc w w' base base' spare spare' held held' m, e2 H enc w w' base base' spare spare' held held' m]
theorem ints_of {k : IntKind} : ∀ (cs : List Value), (∀ v ∈ cs, ∃ z, v = .int k z ∧ (Lit.int k z).wf = true) → ∃ l : List Int, cs = l.map (Value.int k) ∧ ∀ z ∈ l, (Lit.int k z).wf = true
  | [], _ => ⟨[], rfl, fun z hz => by cases hz⟩
  | v :: cs, h => by
    obtain ⟨z, rfl, hw⟩ := h v (List.mem_cons_self ..)
    obtain ⟨l, rfl, hl⟩ := ints_of cs fun u hu => h u (List.mem_cons_of_mem _ hu)
    refine ⟨z :: l, rfl, fun y hy => ?_⟩
    rcases List.mem_cons.1 hy with rfl | hy
    · exact hw
    · exact hl y hy
theorem open_ints_struct {H : Type} {enc : TypeId × Value → H} {w : World} {base b0 : Nat} {spare : Nat → Bool} {held : Bool} {r : Reach} {k : IntKind} {t : TypeId} {fs : Array Field} {n : Nat} {v : Value} {d : DataW H} {p : List MemPlace} (ht : P.underlying t = some (.struct fs)) (hn : P.cellsOf t = n) (ha : AllI P k t) (hsame : SameT P t) (hv : Value.okWide P w r b0 t v) (h : DataW.Trod enc P w base spare held t v d p) :
    ∃ l : List Int, v = .agg (l.map (Value.int k)).toArray ∧ l.length = n ∧ p = [] ∧ (∀ z ∈ l, (Lit.int k z).wf = true) ∧ ∀ w' base' spare' held', DataW.Trod enc P w' base' spare' held' t v d [] := by
  obtain ⟨cs, rfl, hsz⟩ := okWide_struct ht hv
  obtain ⟨fuel, hf⟩ := h
  obtain ⟨h1, h2⟩ := ha _ _ _ _ _ _ _ _ _ hf
  have h2' : p = [] := h2
  subst h2'
  obtain ⟨l, hl, hw⟩ := ints_of _ h1
  have hcs : cs = (l.map (Value.int k)).toArray := by
    apply Array.toList_inj.1
    rw [List.toList_toArray]
    exact hl
  refine ⟨l, by rw [hcs], ?_, rfl, hw, fun w' base' spare' held' => ⟨fuel, (hsame H enc w' w base' base spare' spare held' held fuel _).trans hf⟩⟩
  have e := congrArg Array.size hcs
  simp at e
  omega
end
theorem pos_ints : AllI Try.prog .i8 33 := by
  have e8 : AllI Try.prog .i8 30 := allI_array Try.underlying30 (c := 1) (by kernel_rfl) (by decide) (by kernel_rfl) (allI_int (by kernel_rfl))
  have e16 : AllI Try.prog .i8 31 := allI_array Try.underlying31 (c := 8) (by kernel_rfl) (by decide) (by kernel_rfl) e8
  have e81 : AllI Try.prog .i8 29 := allI_array Try.underlying29 (c := 1) (by kernel_rfl) (by decide) (by kernel_rfl) (allI_int (by kernel_rfl))
  exact allI_struct3 Try.underlying33 (c0 := 81) (c1 := 16) (c2 := 1) rfl rfl rfl (by kernel_rfl) (by kernel_rfl) (by kernel_rfl) (by kernel_rfl) e81 e16 (allI_int (by kernel_rfl))
theorem pos_same : SameT Try.prog 33 := same_struct3 Try.underlying33 (same_array Try.underlying29 (same_int (k := .i8) (by kernel_rfl))) (same_array Try.underlying31 (same_array Try.underlying30 (same_int (k := .i8) (by kernel_rfl)))) (same_int (k := .i8) (by kernel_rfl))
theorem own : ownKnob Try.prog.godebug = none := by kernel_rfl
set_option maxRecDepth 100000 in
theorem lifted (os : Os) (started : os.Started) (H : Type) (enc : TypeId × Value → H) :
    ReturnsInHanded {} Try.checked os 4 .any (Rows.valueTurnsSpec.pre6 enc Try.prog Try.f4 Rows.valueTurnsRow.domain false) (Rows.valueTurnsSpec.post enc Try.prog Try.f4 false true false false) := by
  refine returnsInHanded_of_change_sized (C := Try.checked) own started (by kernel_rfl) Try.func4
    (ChangeSpec.witness6 (enc := enc) (C := Try.checked) false ⟨#[], #[.agg ((List.replicate 98 (Value.int .i8 0)).toArray)], []⟩ 8 (by kernel_rfl) (by kernel_rfl) (by kernel_rfl) (by kernel_rfl)) ?_
  intro W base args ds gs before hval0 hW hcnd hsz0 _
  have hsz : (DataW.weightsEach Try.prog (Try.f4.params.toList ++ Rows.valueTurnsSpec.plain.varTypes Try.prog) (ds ++ gs)).all (· ≤ reachBytes) = true := hsz0
  have hval : ∀ (j : Nat) t v, Try.f4.params[j]? = some t → args[j]? = some v → Value.okWide Try.prog W .any base t v := hval0
  have hW' := hW
  obtain ⟨p, q, hA0, hV, rfl, hfz, hnd⟩ := hW
  have hA : DataW.TrodAll enc Try.prog W 0 (fun _ => true) true Try.f4.params.toList args.toList ds p := hA0
  rw [Try.params4] at hA hval hsz
  obtain ⟨v0, vs0, d0, ds0, p0, q0, hargs, rfl, rfl, h0, r0⟩ := trodAll_cons hA
  obtain ⟨rfl, rfl, rfl⟩ := trodAll_nil r0
  obtain rfl : args = #[v0] := by cases args; simp_all
  obtain ⟨rfl, rfl⟩ := trodVars_none hV
  obtain ⟨cs, rfl, hcl, rfl, hcw, hsh⟩ := open_ints_struct (n := 98) Try.underlying33 (by kernel_rfl) pos_ints pos_same (hval 0 33 v0 rfl rfl) h0
  clear hA0 hval0 hsz0 hsz
  refine (Pure.ValueTurns.walk cs W hcl hcw).mono fun e W' ⟨he, bel⟩ => ?_
  subst he
  exact ⟨_, rfl, _, _, _, [], _, [], hW', trodAll_mk1 (shut_bool Try.underlying4 _), (trodAll_cons_mk (hsh W' _ _ _) trodAll_mk0), rfl, bel.frame _, fun h => by cases h⟩
theorem over : Rows.valueTurnsRow.holds Try.pinned (OpenSpec.ofChange Rows.valueTurnsSpec) :=
  OpenClaim.holds_of_wide 4 Try.f4 rfl rfl rfl rfl rfl rfl rfl ⟨rfl, rfl, rfl, rfl, rfl⟩ rfl rfl rfl rfl rfl (by kernel_rfl) Try.func4 (by kernel_rfl)
    (of_decide_eq_true (by kernel_rfl)) (by unfold Func.isWrapper; first | (rw [if_pos (by decide +kernel)]; kernel_rfl) | (rw [if_neg (by decide +kernel)]; exact ⟨rfl, rfl⟩))
    (fun os started H enc _ => lifted os started H enc)
theorem proved : Rows.ValueTurnsSaid := over
#print axioms proved
end Go.Proofs.Ytmoeodcmfjnihab.valueTurns
namespace Go.Proofs.Ytmoeodcmfjnihab
/-- The row, under a short name, for the claim. -/
theorem valueTurns_holds : Rows.ValueTurnsSaid := valueTurns.proved
end Go.Proofs.Ytmoeodcmfjnihab
