/- Calls, last part: the operation. -/
import Derived.Test.YtgeignldbgncbaaGreatDoorKA2
section
set_option linter.constructorNameAsVariable false
set_option linter.unusedVariables false
set_option linter.unusedSimpArgs false
set_option linter.unnecessarySimpa false
namespace Go.AM
theorem cst_v {u t : Ty} {x : u.den} {y : t.den} (h : cst u t x = some y) (rs : List Ref) : D.v u x rs = D.v t y rs := by
  obtain ⟨e, h⟩ := cst_some h
  subst e; subst h; rfl
theorem cst_bo {u t : Ty} {x : u.den} {y : t.den} (h : cst u t x = some y) (rs : List Ref) : Blk.o u x rs = Blk.o t y rs := by
  obtain ⟨e, h⟩ := cst_some h
  subst e; subst h; rfl
theorem cst_bw {u t : Ty} {x : List u.den} {y : List t.den} (h : cst (.l 0 u) (.l 0 t) x = some y) (e : TypeId) (own : Bool) : Blk.w e u x own = Blk.w e t y own := by
  obtain ⟨e, h⟩ := cst_some h
  cases e; subst h; rfl
theorem SD.dec_enc : ∀ (s : SD) (l : List D) (x : s.X) (r : List D), s.dec l = some (x, r) → l = s.enc x ++ r := by
  intro s
  induction s with
  | t ty rs =>
    intro l x r h
    cases l with
    | nil => simp [SD.dec] at h
    | cons d l =>
      cases d with
      | v u y rs' =>
        simp only [SD.dec] at h
        split at h
        · rename_i e; subst e
          cases hc : cst u ty y with
          | none => rw [hc] at h; cases h
          | some z =>
            rw [hc] at h
            simp only [Option.some.injEq, Prod.mk.injEq] at h
            obtain ⟨rfl, rfl⟩ := h
            simp [SD.enc, cst_v hc]
        · cases h
      | _ => simp [SD.dec] at h
  | it b =>
    intro l x r h
    cases l with
    | nil => simp [SD.dec] at h
    | cons d l =>
      cases d with
      | it b' =>
        simp only [SD.dec] at h
        split at h
        · rename_i e; subst e
          simp only [Option.some.injEq, Prod.mk.injEq] at h
          obtain ⟨_, rfl⟩ := h
          rfl
        · cases h
      | _ => simp [SD.dec] at h
  | nf =>
    intro l x r h
    cases l with
    | nil => simp [SD.dec] at h
    | cons d l =>
      cases d with
      | nf =>
        simp only [SD.dec, Option.some.injEq, Prod.mk.injEq] at h
        obtain ⟨_, rfl⟩ := h
        rfl
      | _ => simp [SD.dec] at h
  | no =>
    intro l x r h
    cases l with
    | nil => simp [SD.dec] at h
    | cons d l =>
      cases d with
      | no =>
        simp only [SD.dec, Option.some.injEq, Prod.mk.injEq] at h
        obtain ⟨_, rfl⟩ := h
        rfl
      | _ => simp [SD.dec] at h
  | ip b q =>
    intro l x r h
    cases l with
    | nil => simp [SD.dec] at h
    | cons d l =>
      cases d with
      | ip b' q' =>
        simp only [SD.dec] at h
        split at h
        · rename_i e; obtain ⟨rfl, rfl⟩ := e
          simp only [Option.some.injEq, Prod.mk.injEq] at h
          obtain ⟨_, rfl⟩ := h
          rfl
        · cases h
      | _ => simp [SD.dec] at h
  | sv b =>
    intro l x r h
    cases l with
    | nil => simp [SD.dec] at h
    | cons d l =>
      cases d with
      | sl b' o n =>
        cases o with
        | none => simp [SD.dec] at h
        | some o =>
          simp only [SD.dec] at h
          split at h
          · rename_i e; subst e
            simp only [Option.some.injEq, Prod.mk.injEq] at h
            obtain ⟨rfl, rfl⟩ := h
            rfl
          · cases h
      | _ => simp [SD.dec] at h
  | sn b =>
    intro l x r h
    cases l with
    | nil => simp [SD.dec] at h
    | cons d l =>
      cases d with
      | sl b' o n =>
        cases o with
        | some o => simp [SD.dec] at h
        | none =>
          simp only [SD.dec] at h
          split at h
          · rename_i e; subst e
            simp only [Option.some.injEq, Prod.mk.injEq] at h
            obtain ⟨rfl, rfl⟩ := h
            rfl
          · cases h
      | _ => simp [SD.dec] at h
  | fc i s ih =>
    intro l x r h
    cases l with
    | nil => simp [SD.dec] at h
    | cons d l =>
      cases d with
      | fc j d =>
        simp only [SD.dec] at h
        split at h
        · rename_i e; subst e
          cases hc : s.dec [d] with
          | none => rw [hc] at h; cases h
          | some z =>
            obtain ⟨z, m⟩ := z
            cases m with
            | cons _ _ => rw [hc] at h; cases h
            | nil =>
              rw [hc] at h
              simp only [Option.some.injEq, Prod.mk.injEq] at h
              obtain ⟨rfl, rfl⟩ := h
              have := ih _ _ _ hc
              rw [List.append_nil] at this
              simp [SD.enc, ← this]
        · cases h
      | _ => simp [SD.dec] at h
  | tu s ih =>
    intro l x r h
    cases l with
    | nil => simp [SD.dec] at h
    | cons d l =>
      cases d with
      | tup ds =>
        simp only [SD.dec] at h
        cases hc : s.dec ds with
        | none => rw [hc] at h; cases h
        | some z =>
          obtain ⟨z, m⟩ := z
          cases m with
          | cons _ _ => rw [hc] at h; cases h
          | nil =>
            rw [hc] at h
            simp only [Option.some.injEq, Prod.mk.injEq] at h
            obtain ⟨rfl, rfl⟩ := h
            have := ih _ _ _ hc
            rw [List.append_nil] at this
            simp [SD.enc, ← this]
      | _ => simp [SD.dec] at h
  | cl f s ih =>
    intro l x r h
    cases l with
    | nil => simp [SD.dec] at h
    | cons d l =>
      cases d with
      | clo f' ds =>
        simp only [SD.dec] at h
        split at h
        · rename_i e; subst e
          cases hc : s.dec ds with
          | none => rw [hc] at h; cases h
          | some z =>
            obtain ⟨z, m⟩ := z
            cases m with
            | cons _ _ => rw [hc] at h; cases h
            | nil =>
              rw [hc] at h
              simp only [Option.some.injEq, Prod.mk.injEq] at h
              obtain ⟨rfl, rfl⟩ := h
              have := ih _ _ _ hc
              rw [List.append_nil] at this
              simp [SD.enc, ← this]
        · cases h
      | _ => simp [SD.dec] at h
  | c a b iha ihb =>
    intro l x r h
    simp only [SD.dec, Option.bind_eq_some_iff, Option.map_eq_some_iff] at h
    obtain ⟨⟨xa, ra⟩, ha, ⟨xb, rb⟩, hb, he⟩ := h
    simp only [Prod.mk.injEq] at he
    obtain ⟨rfl, rfl⟩ := he
    have h2 := ihb _ _ _ hb
    simp only at h2
    rw [iha _ _ _ ha, h2]
    simp [SD.enc]
  | e =>
    intro l x r h
    simp only [SD.dec, Option.some.injEq, Prod.mk.injEq] at h
    obtain ⟨_, rfl⟩ := h
    rfl
theorem SB.dec_enc : ∀ (s : SB) (l : List Blk) (x : s.X) (r : List Blk), s.dec l = some (x, r) → l = s.enc x ++ r := by
  intro s
  induction s with
  | o ty rs =>
    intro l x r h
    cases l with
    | nil => simp [SB.dec] at h
    | cons d l =>
      cases d with
      | o u y rs' =>
        simp only [SB.dec] at h
        split at h
        · rename_i e; subst e
          cases hc : cst u ty y with
          | none => rw [hc] at h; cases h
          | some z =>
            rw [hc] at h
            simp only [Option.some.injEq, Prod.mk.injEq] at h
            obtain ⟨rfl, rfl⟩ := h
            simp [SB.enc, cst_bo hc]
        · cases h
      | _ => simp [SB.dec] at h
  | w e ty own =>
    intro l x r h
    cases l with
    | nil => simp [SB.dec] at h
    | cons d l =>
      cases d with
      | w e' u y own' =>
        simp only [SB.dec] at h
        split at h
        · rename_i e; obtain ⟨rfl, rfl⟩ := e
          cases hc : cst (.l 0 u) (.l 0 ty) y with
          | none => rw [hc] at h; cases h
          | some z =>
            rw [hc] at h
            simp only [Option.some.injEq, Prod.mk.injEq] at h
            obtain ⟨rfl, rfl⟩ := h
            simp [SB.enc, cst_bw hc]
        · cases h
      | _ => simp [SB.dec] at h
  | it =>
    intro l x r h
    cases l with
    | nil => simp [SB.dec] at h
    | cons d l =>
      cases d with
      | it s p =>
        simp only [SB.dec, Option.some.injEq, Prod.mk.injEq] at h
        obtain ⟨rfl, rfl⟩ := h
        rfl
      | _ => simp [SB.dec] at h
  | de =>
    intro l x r h
    cases l with
    | nil => simp [SB.dec] at h
    | cons d l =>
      cases d with
      | de =>
        simp only [SB.dec, Option.some.injEq, Prod.mk.injEq] at h
        obtain ⟨_, rfl⟩ := h
        rfl
      | _ => simp [SB.dec] at h
  | c a b iha ihb =>
    intro l x r h
    simp only [SB.dec, Option.bind_eq_some_iff, Option.map_eq_some_iff] at h
    obtain ⟨⟨xa, ra⟩, ha, ⟨xb, rb⟩, hb, he⟩ := h
    simp only [Prod.mk.injEq] at he
    obtain ⟨rfl, rfl⟩ := he
    have h2 := ihb _ _ _ hb
    simp only at h2
    rw [iha _ _ _ ha, h2]
    simp [SB.enc]
  | e =>
    intro l x r h
    simp only [SB.dec, Option.some.injEq, Prod.mk.injEq] at h
    obtain ⟨_, rfl⟩ := h
    rfl
theorem decG_to {α : Type} : ∀ (l : List RS) (x : XS RS.X l) (k : D × List Blk × List Blk → G α) (e : α), (decG l x k).to e → (k (encR l x)).to e
  | [], x, k, e, h => h.elim
  | [s], x, k, e, h => h
  | s :: t :: l, .inl x, k, e, h => h
  | s :: t :: l, .inr x, k, e, h => decG_to (t :: l) x k e h
theorem pickC_ok : ∀ (l : List Cf) (as : List D) (bs : List Blk) {c : Cf} {x : c.a.X × c.b.X}, pickC l as bs = some ⟨c, x⟩ → c ∈ l ∧ as = c.a.enc x.1 ∧ bs = c.b.enc x.2
  | [], _, _, c, x, h => by cases h
  | k :: l, as, bs, c, x, h => by
    have ih := pickC_ok l as bs (c := c) (x := x)
    unfold pickC at h
    split at h
    · rename_i x1 h1
      split at h
      · rename_i x2 h2
        cases h
        exact ⟨by simp, by simpa using SD.dec_enc _ _ _ _ h1, by simpa using SB.dec_enc _ _ _ _ h2⟩
      · exact ⟨List.mem_cons_of_mem _ (ih h).1, (ih h).2⟩
    · exact ⟨List.mem_cons_of_mem _ (ih h).1, (ih h).2⟩
theorem callD_to {E : Env} {nx : Nat} {h : Nat → Blk} {f : FuncId} {as : List D} {e : Eff} (he : (callD E nx h f as).to e) : ∃ ro p c, pass ro h as = some p ∧ pickC (E.c f) p.args p.blks = some c ∧ (callP E nx p c).to e := by
  have key : ∀ {ro p c}, tryC E ro h f as = some (p, c) → pass ro h as = some p ∧ pickC (E.c f) p.args p.blks = some c := by
    intro ro p c h
    unfold tryC at h
    split at h
    · split at h
      · cases h; exact ⟨by assumption, by assumption⟩
      · cases h
    · cases h
  unfold callD at he
  split at he
  · rename_i p c h; exact ⟨_, p, c, (key h).1, (key h).2, he⟩
  · split at he
    · rename_i p c h; exact ⟨_, p, c, (key h).1, (key h).2, he⟩
    · exact he.elim
/-- What is known of the functions. -/
def EOk (P : Program) (K : Nat) (Gl : World → Prop) (E : Env) : Prop :=
  ∀ f c, c ∈ E.c f → ∀ x y, c.f x = some y → Acts P K Gl f (c.a.enc x.1) (c.b.enc x.2) (encR c.r y).1 (encR c.r y).2.1 (encR c.r y).2.2
/-- What is asked of the world behind: the first K blocks stay. -/
structure Sd (K : Nat) (Gl : World → Prop) (F : Nat → Prop) (w0 : World) : Prop where
  st : ∀ w w', (∀ k, k < K → w'.heap[k]? = w.heap[k]?) → Gl w → Gl w'
  gl : Gl w0
  sz : K ≤ w0.heap.size
  lo : ∀ k, F k → K ≤ k
def OkG (P : Program) (K : Nat) (Gl : World → Prop) (E : Env) (o : Oper) : Prop :=
  ∀ (F : Nat → Prop) (w0 w : World) (N : Nat) (U : Nat → Prop) (T : Nat → D) (h : Nat → Blk) (ι : Nat → Option (Nat × Nat × Nat)) (a : Act) (Q : Exit → Act → World → Prop) (nx : Nat) (e : Eff),
    Sd K Gl F w0 → Rel F w0 N ⟨U, h, ι⟩ T a w → (exo E nx (ev T) h o).to e → (∀ j, nx ≤ j → j < e.2.2 → ¬ U j) → Goes P o a w F w0 N U T h ι e Q
section
variable {P : Program} {K : Nat} {Gl : World → Prop} {F : Nat → Prop} {w0 w w' : World} {N : Nat} {U : Nat → Prop} {T : Nat → D} {h : Nat → Blk} {ι : Nat → Option (Nat × Nat × Nat)} {a : Act} {Q : Exit → Act → World → Prop} {E : Env} {o : Oper} {nx : Nat} {e : Eff} {M M' : Wd}
theorem Sd.now (S : Sd K Gl F w0) (f : Fr F w0 w) : Gl w ∧ K ≤ w.heap.size :=
  ⟨S.st w0 w (fun k hk => f.block k (Nat.lt_of_lt_of_le hk S.sz) fun hf => absurd (S.lo k hf) (by omega)) S.gl, Nat.le_trans S.sz f.size⟩
theorem Fr.trans (f : Fr F w0 w) {G : Nat → Prop} (g : Fr G w w') (hG : ∀ k, G k → F k ∨ w0.heap.size ≤ k) : Fr F w0 w' :=
  ⟨g.os.trans f.os, g.tape.trans f.tape, g.output.trans f.output, Nat.le_trans f.size g.size, fun k hk hf => (g.block k (Nat.lt_of_lt_of_le hk f.size) fun h => by
    rcases hG k h with h | h
    · exact hf h
    · omega).trans (f.block k hk hf)⟩
theorem drl_app : ∀ {l m : List D} {vs us : List Value}, DRL M l vs → DRL M m us → DRL M (l ++ m) (vs ++ us)
  | [], _, [], _, _, h => h
  | _ :: _, _, _ :: _, _, h, h' => ⟨h.1, drl_app h.2 h'⟩
  | [], _, _ :: _, _, h, _ => h.elim
  | _ :: _, _, [], _, h, _ => h.elim
theorem Rel.moved (R : Rel F w0 N ⟨U, h, ι⟩ T a w) {d : D} {us : List (Nat × Blk)} {v : Value} {ι' : Nat → Option (Nat × Nat × Nat)} (X : Moved ⟨U, h, ι⟩ w d us v ι' w') (dst : Option Nat) :
    Rel F w0 N ⟨addU U us, updH h us, ι'⟩ (putT N T dst d) (a.put dst v) w' := by
  have hf : ∀ k, foot ⟨U, h, ι⟩ k → F k ∨ w0.heap.size ≤ k := fun k ⟨b, oo, c, h1, h2⟩ => R.ft b k oo c h1 h2
  have R' : Rel F w0 N ⟨addU U us, updH h us, ι'⟩ T a w' := by
    refine ⟨R.size, fun i => DR.ext X.ext _ _ (R.tm i), X.bl, fun b hb => ?_, X.sp, fun b g oo c hm hi => ?_, R.fr.trans X.fr hf, R.df⟩
    · show updH h us b = .de
      rw [updH_not us h b fun k hk => hb (.inr ⟨k, hk⟩)]
      exact R.un b fun hu => hb (.inl hu)
    · rcases X.ft b g oo c hm hi with h1 | h1
      · exact hf g h1
      · exact .inr (Nat.le_trans R.fr.size h1)
  exact R'.put dst X.dr
theorem ok_callD {fi : FuncId} {as : List D} {vs : List Value} (C : EOk P K Gl E) (S : Sd K Gl F w0) (R : Rel F w0 N ⟨U, h, ι⟩ T a w) (hv : DRL ⟨U, h, ι⟩ as vs) (he : (callD E nx h fi as).to e) (hfr : ∀ j, nx ≤ j → j < e.2.2 → ¬ U j)
    (hex : (execOp a.eval o).run P w = (callFunc fi vs.toArray).run P w) : Goes P o a w F w0 N U T h ι e Q := by
  obtain ⟨ro, p, ⟨c, x⟩, hp, hx, he⟩ := callD_to he
  simp only [callP] at he
  split at he
  case isFalse => exact he.elim
  rename_i hown
  obtain ⟨y, hy, he⟩ := he
  have he := decG_to _ _ _ _ he
  split at he
  case h_2 => exact he.elim
  rename_i d us nsl hd hus hns
  obtain ⟨x1, x2⟩ := x
  obtain ⟨hc, hxa⟩ := pickC_ok _ _ _ hx
  have hA := C fi c hc _ _ hy
  rw [← hxa.1, ← hxa.2] at hA
  generalize (encR c.r y).1 = r at *
  generalize (encR c.r y).2.1 = hs at *
  generalize (encR c.r y).2.2 = ns at *
  obtain rfl : (d, us ++ nsl, nx + ns.length) = e := he
  obtain ⟨hGl, hK⟩ := S.now R.fr
  have hfo : ∀ g, foot ⟨U, h, ι⟩ g → K ≤ g := fun g ⟨b, oo, c, h1, h2⟩ => by
    rcases R.ft b g oo c h1 h2 with h3 | h3
    · exact S.lo g h3
    · exact Nat.le_trans S.sz h3
  have core := call_core (P := P) (M := ⟨U, h, ι⟩) (w := w) (nx := nx) R.bl R.sp (fun _ _ => .inr trivial) (f := fi) hv hp hown hA hGl hK hfo (fun j h1 h2 => hfr j h1 h2) R.un rfl hd hus hns
  unfold Goes Oper.wp
  rw [hex]
  revert core
  generalize (callFunc fi vs.toArray).run P w = rr
  intro core
  cases rr with
  | ok n w1 =>
    cases n <;> first | exact core.elim | skip
    case enter f1 args1 =>
      obtain ⟨rfl, core⟩ := core
      by_cases hq : us ++ nsl = []
      · left
        refine ⟨hq, rfl, Calls.mono core fun en w2 ⟨v, hv, ι', X⟩ => ⟨v, hv, ?_⟩⟩
        rw [hq] at X
        have hU : addU (Wd.U ⟨U, h, ι⟩) [] = U := addU_nil
        have x1 := X.dr
        have x2 := X.bl
        have x3 := X.ext
        rw [hU] at x1 x2 x3
        have hE : Ext ⟨U, updH h [], ι'⟩ ⟨U, h, ι⟩ := fun b hb => ⟨hb, (x3 b hb).2.imp id fun h => ⟨rfl, h.2.symm⟩⟩
        refine ⟨DR.ext hE d v x1, fun b => ?_, R.fr.trans X.fr fun k ⟨b, oo, c, h1, h2⟩ => R.ft b k oo c h1 h2⟩
        by_cases hd : h b = .de
        · unfold BR
          simp only [hd]
        · have hb : U b := Classical.byContradiction fun hn => hd (R.un b hn)
          rcases (x3 b hb).2 with h1 | h1
          · exfalso
            revert h1 hd
            show h b ≠ .de → shp (h b) = none → False
            cases h b <;> simp [shp]
          · exact BR.same (x2 b) rfl h1.2.symm hE fun _ _ _ _ _ => rfl
      · refine .inr ⟨hq, ?_⟩
        refine Calls.mono core fun en w2 ⟨v, hv, ι', X⟩ => ?_
        subst hv
        exact ⟨ι', R.moved X o.dst, X.ext⟩
  | halt x w1 => exact core.elim
theorem ok_call {f : Operand} {args : Array Operand} {ts : Array TypeId} (C : EOk P K Gl E) (ho : o.op = .call { callee := .value f, args := args, argTypes := ts }) : OkG P K Gl E o := by
  intro F w0 w N U T h ι a Q nx e S R he hfr
  simp only [exo, ho] at he
  split at he
  case h_2 => exact he.elim
  rename_i fi cs hf
  have hx := dr_ev R f
  rw [hf] at hx
  obtain ⟨vs, hfv, hcs⟩ := hx
  refine ok_callD (vs := args.toList.map a.eval ++ vs.toList) C S R (drl_app (drl_map R args.toList) hcs) he hfr ?_
  have e1 : (args.toList.map a.eval ++ vs.toList).toArray = args.map a.eval ++ vs := by apply Array.toList_inj.1; simp
  rw [e1]
  simp only [execOp, ho, resolve, hfv, Deferred.ofValue]
  show (invoke (Target.fn (.func fi) vs) (#[] ++ args.map a.eval)).run P w = _
  simp [invoke]
theorem run_method {t : TypeId} {s : String} {fi : FuncId} {v : Value} (hm : methOk P t s fi = true) (n : Nat) : (method (n + 1) t v s).run P w = .ok (fi, v) w := by
  unfold methOk at hm
  cases hi : P.info? t with
  | none => rw [hi] at hm; cases hm
  | some i =>
    rw [hi] at hm
    simp only at hm
    cases hq : i.methods.find? (·.name == s) with
    | none => rw [hq] at hm; cases hm
    | some m =>
      rw [hq] at hm
      simp only [Bool.and_eq_true] at hm
      obtain ⟨hp, hm⟩ := hm
      cases hf : m.func with
      | none => rw [hf] at hm; cases hm
      | some p =>
        obtain ⟨g, z⟩ := p
        cases hu : P.underlying t with
        | none => rw [hf, hu] at hm; cases hm
        | some d =>
          rw [hf, hu] at hm
          simp only [Bool.and_eq_true, beq_iff_eq] at hm
          obtain ⟨rfl, hd⟩ := hm
          have hpe : m.path.toList = [] := by simpa using hp
          unfold method
          simp only [Sem.run_bind, typeInfo, run_program, hi, Sem.run_pure, Result.andThen_ok, hq, hpe, follow, hf]
          have hr : (receiverAt t (.val v) z (if m.path.isEmpty then some ((s.splitOn ".").getLastD s) else none)).run P w = .ok v w := by
            unfold receiverAt
            rw [Sem.run_bind, run_underlying hu]
            simp only [Result.andThen_ok]
            cases d <;> cases z <;> first | (simp at hd; done) | rfl
          rw [hr]
          rfl
theorem ok_invoke {r : Operand} {s : String} {args : Array Operand} {ts : Array TypeId} (K0 : TOk P E) (C : EOk P K Gl E) (ho : o.op = .call { callee := .invoke r s, args := args, argTypes := ts }) : OkG P K Gl E o := by
  intro F w0 w N U T h ι a Q nx e S R he hfr
  simp only [exo, ho] at he
  split at he
  case h_2 => exact he.elim
  rename_i t d hr
  split at he
  case h_2 => exact he.elim
  rename_i fi hm
  have hx := dr_ev R r
  rw [hr] at hx
  obtain ⟨u, hu, hd⟩ := hx
  refine ok_callD (as := d :: args.toList.map (ev T)) (vs := u :: args.toList.map a.eval) C S R ⟨hd, drl_map R args.toList⟩ he hfr ?_
  simp only [execOp, ho, resolve, hu]
  rw [Sem.run_bind, Sem.run_pure, Result.andThen_ok]
  have e2 : (#[Value.iface t u] ++ args.map a.eval)[0]? = some (.iface t u) := by simp [Array.getElem?_append]
  have e3 : (#[Value.iface t u] ++ args.map a.eval).extract 1 (#[Value.iface t u] ++ args.map a.eval).size = args.map a.eval := by simp
  show (invoke (Target.fn (.method s) #[]) (#[Value.iface t u] ++ args.map a.eval)).run P w = _
  simp only [invoke, e2, e3, callMethod]
  rw [Sem.run_bind, run_program, Result.andThen_ok, Sem.run_bind]
  have hpos : 0 < Made.depth := by decide
  obtain ⟨n, hn⟩ : ∃ n, P.types.size + Made.depth = n + 1 := ⟨P.types.size + Made.depth - 1, by omega⟩
  rw [hn, run_method (K0.me _ _ _ hm) n, Result.andThen_ok]
  congr 2
  apply Array.toList_inj.1
  simp
theorem okG_all (K0 : TOk P E) (C : EOk P K Gl E) : OkG P K Gl E o := by
  by_cases hc : ∃ f args ts, o.op = .call { callee := .value f, args := args, argTypes := ts }
  · obtain ⟨f, args, ts, ho⟩ := hc
    exact ok_call C ho
  · by_cases hi : ∃ r s args ts, o.op = .call { callee := .invoke r s, args := args, argTypes := ts }
    · obtain ⟨r, s, args, ts, ho⟩ := hi
      exact ok_invoke K0 C ho
    · exact fun F w0 w N U T h ι a Q nx e S R he hf => ok_all K0 (fun f args ts ho => absurd ⟨f, args, ts, ho⟩ hc) (fun r s args ts ho => absurd ⟨r, s, args, ts, ho⟩ hi) F w0 w N U T h ι a Q nx e R he hf
end
end Go.AM
end
/- Regions whose operations come in order. -/
section
set_option linter.constructorNameAsVariable false
set_option linter.unusedVariables false
set_option linter.unusedSimpArgs false
set_option linter.unnecessarySimpa false
namespace Go.AM
section
variable {P : Program} {K : Nat} {Gl : World → Prop} {F : Nat → Prop} {w0 w w' : World} {N : Nat} {U : Nat → Prop} {T : Nat → D} {h : Nat → Blk} {ι : Nat → Option (Nat × Nat × Nat)} {a : Act} {Q : Exit → Act → World → Prop} {E : Env} {o : Oper} {nx : Nat} {e : Eff} {M M' Z : Wd} {R : Type} {m : Nat}
theorem updH_nil : updH h [] = h := rfl
/-- What leaves all blocks alone is a step too. -/
theorem goes_wp (G : Goes P o a w F w0 N U T h ι e Q) (L : Rel F w0 N ⟨U, h, ι⟩ T a w) : o.wp P a w (Nx F w0 N ⟨U, h, ι⟩ (addU U e.2.1) (putT N T o.dst e.1) (updH h e.2.1)) Q := by
  rcases G with ⟨he, G⟩ | ⟨_, G⟩
  · rw [he, addU_nil, updH_nil]
    unfold Oper.wp
    revert G
    generalize (execOp a.eval o).run P w = rr
    intro G
    have same : ∀ {w2 : World} {v : Value}, (∀ b, BR ⟨U, h, ι⟩ w2 b) → Fr F w0 w2 → DR ⟨U, h, ι⟩ e.1 v → Nx F w0 N ⟨U, h, ι⟩ U (putT N T o.dst e.1) h (a.put o.dst v) w2 := fun h1 h2 h3 =>
      ⟨ι, Rel.put ⟨L.size, L.tm, h1, L.un, L.sp, L.ft, h2, L.df⟩ o.dst h3, Ext.refl _⟩
    cases rr with
    | ok n w1 =>
      cases n <;> first | exact G.elim | skip
      case value v => obtain ⟨rfl, hd⟩ := G; exact same L.bl L.fr hd
      case enter f args =>
        obtain ⟨rfl, hc⟩ := G
        refine Calls.mono hc fun en w2 ⟨v, hv, h1, h2, h3⟩ => ?_
        subst hv
        exact same h2 h3 h1
    | halt x w1 => exact G.elim
  · exact G
theorem H_setH : ∀ (l : List Blk) (b : Nat) (k : Blk) (j : Nat), H (setH l b k) j = if j = b then k else H l j
  | [], 0, k, j => by cases j <;> simp [setH, H]
  | [], n + 1, k, j => by
    cases j with
    | zero => simp [setH, H]
    | succ j =>
      have := H_setH [] n k j
      simp only [setH, H, List.getD_cons_succ, Nat.add_right_cancel_iff] at this ⊢
      rw [this]; simp
  | c :: l, 0, k, j => by cases j <;> simp [setH, H]
  | c :: l, n + 1, k, j => by
    cases j with
    | zero => simp [setH, H]
    | succ j =>
      have := H_setH l n k j
      simp only [setH, H, List.getD_cons_succ, Nat.add_right_cancel_iff] at this ⊢
      exact this
theorem H_fold : ∀ (us : List (Nat × Blk)) (l : List Blk), H (us.foldl (fun h u => setH h u.1 u.2) l) = updH (H l) us
  | [], l => rfl
  | (b, k) :: us, l => by
    show H (us.foldl _ (setH l b k)) = updH (fun x => if x = b then k else H l x) us
    rw [H_fold us (setH l b k)]
    congr 1
    funext j
    exact H_setH l b k j
theorem tf_set (t : List D) (i : Nat) (d : D) : tf (t.set i d) = putT t.length (tf t) (some i) d := by
  funext j
  unfold tf putT
  simp only [List.getD_eq_getElem?_getD, List.getElem?_set]
  by_cases h1 : i = j
  · subst h1
    by_cases h2 : i < t.length
    · simp [h2]
    · simp [h2, List.getElem?_eq_none (Nat.le_of_not_lt h2)]
  · simp [h1]
theorem tf_put (st : St) (dst : Option Nat) (d : D) : tf (st.put dst d).t = putT st.t.length (tf st.t) dst d ∧ (st.put dst d).t.length = st.t.length ∧ (st.put dst d).h = st.h := by
  cases dst with
  | none => exact ⟨by funext j; simp [St.put, putT], rfl, rfl⟩
  | some i => exact ⟨tf_set _ _ _, by simp [St.put], rfl⟩
theorem set_same {t : List D} {i : Nat} {d : D} (h : tf t i = d) (hd : d ≠ .no) : tf (t.set i d) = tf t ∧ (t.set i d).length = t.length := by
  refine ⟨?_, by simp⟩
  rw [tf_set]
  funext j
  unfold putT
  split
  · rename_i e
    simp at e
    obtain ⟨rfl, _⟩ := e
    exact h.symm
  · rfl
/-- The first blocks are seen as they were, or gone. -/
def Kp (m : Nat) (Z M : Wd) : Prop := ∀ b, b < m → M.U b ∧ (shp (M.h b) = none ∨ (shp (M.h b) = shp (Z.h b) ∧ M.ι b = Z.ι b))
theorem Kp.ext {m : Nat} {Z : Wd} (k : Kp m Z M) (e : Ext M M') : Kp m Z M' := fun b hb => by
  obtain ⟨hu, hk⟩ := k b hb
  obtain ⟨hu', he⟩ := e b hu
  refine ⟨hu', ?_⟩
  rcases he with he | ⟨he, hi⟩
  · exact .inl he
  · rw [he, hi]; exact hk
/-- What stands for a state; the first m blocks are seen as in Z, or gone. -/
def Sta (F : Nat → Prop) (w0 : World) (N m : Nat) (Z : Wd) (st : St) (nx : Nat) (a : Act) (w : World) : Prop :=
  st.t.length = N ∧ ∃ U ι, Rel F w0 N ⟨U, H st.h, ι⟩ (tf st.t) a w ∧ (∀ j, nx ≤ j → ¬ U j) ∧ Kp m Z ⟨U, H st.h, ι⟩
theorem step_ok (K0 : TOk P E) (C : EOk P K Gl E) (S : Sd K Gl F w0) {st : St} (he : (exo E nx (ev (tf st.t)) (H st.h) o).to e) (hok : okE nx e = true) (L : Sta F w0 N m Z st nx a w) {Kn : Act → World → Prop}
    (hk : ∀ a' w', Sta F w0 N m Z (st.app o.dst e) e.2.2 a' w' → Kn a' w') : o.wp P a w Kn Q := by
  obtain ⟨hN, U, ι, L, hf, hkp⟩ := L
  simp only [okE, Bool.and_eq_true, List.all_eq_true, Nat.ble_eq, Nat.blt_eq] at hok
  have G := okG_all (o := o) K0 C F w0 w N U (tf st.t) (H st.h) ι a Q nx e S L he (fun j h1 _ => hf j h1)
  have h2 : H (st.app o.dst e).h = updH (H st.h) e.2.1 := by
    show H (e.2.1.foldl (fun h u => setH h u.1 u.2) st.h) = _
    rw [H_fold]
  refine Oper.wp_mono (fun a' w' ⟨ι', L', hx⟩ => hk a' w' ⟨?_, addU U e.2.1, ι', ?_, fun j hj => ?_, ?_⟩) (goes_wp G L)
  · show (st.put o.dst e.1).t.length = N
    rw [(tf_put st o.dst e.1).2.1, hN]
  · have h1 : tf (st.app o.dst e).t = putT N (tf st.t) o.dst e.1 := by rw [← hN]; exact (tf_put st o.dst e.1).1
    rw [h1, h2]
    exact L'
  · rintro (hu | ⟨k, hk⟩)
    · exact hf j (Nat.le_trans hok.2 hj) hu
    · have := hok.1 _ hk
      simp only at this
      omega
  · rw [h2]
    exact hkp.ext hx
theorem doOp_ok (K0 : TOk P E) (C : EOk P K Gl E) (S : Sd K Gl F w0) {st : St} {k : St → Nat → Option R} {r : R} (hr : doOp E o nx st k = some r) (L : Sta F w0 N m Z st nx a w) {Kn : Act → World → Prop}
    (hk : ∀ st' nx' a' w', k st' nx' = some r → Sta F w0 N m Z st' nx' a' w' → Kn a' w') : o.wp P a w Kn Q := by
  unfold doOp at hr
  obtain ⟨e, he, hr⟩ := G.bind_some _ _ _ hr
  cases hok : okE nx e with
  | false => rw [hok] at hr; cases hr
  | true => rw [hok] at hr; exact step_ok K0 C S he hok L fun a' w' L' => hk _ _ a' w' hr L'
theorem sta_skip {st : St} (L : Sta F w0 N m Z st nx a w) (dst : Option Nat) : Sta F w0 N m Z (st.put dst (.tup [])) nx (a.put dst undef) w := by
  obtain ⟨hN, U, ι, L, hf, hkp⟩ := L
  obtain ⟨h1, h2, h3⟩ := tf_put st dst (.tup [])
  refine ⟨by rw [h2, hN], U, ι, ?_, hf, by rw [h3]; exact hkp⟩
  rw [h1, h3, hN]
  exact L.put dst ⟨#[], rfl, trivial⟩
theorem sta_set {st : St} {t : Nat} {c : Bool} (L : Sta F w0 N m Z st nx a w) (h : tf st.t t = .v .b c []) : Sta F w0 N m Z (st.set t c) nx a w := by
  obtain ⟨hN, U, ι, L, hf, hkp⟩ := L
  obtain ⟨h1, h2⟩ := set_same h (by simp)
  refine ⟨by show (st.t.set t _).length = N; rw [h2, hN], U, ι, ?_, hf, hkp⟩
  show Rel F w0 N ⟨U, H st.h, ι⟩ (tf (st.t.set t _)) a w
  rw [h1]
  exact L
theorem yielded_of {ops : Array Oper} {ts : Array Value} {j t : Nat} (ht : (ops[j]?).bind (·.dst) = some t) : yielded ops ts j = (match ts.getD t undef with | .bool b => some b | _ => none) := by
  unfold yielded
  rw [ht, Option.bind_some, Array.getD_eq_getD_getElem?]
  cases ts[t]? with
  | none => rfl
  | some v => cases v <;> rfl
theorem runOps_ok (K0 : TOk P E) (C : EOk P K Gl E) (S : Sd K Gl F w0) {ops : Array Oper} {k : St → Nat → Option R} {r : R}
    (hk : ∀ st nx a w, k st nx = some r → Sta F w0 N m Z st nx a w → Q .normal a w) : ∀ (os : List Oper) (nx : Nat) (st : St) (a : Act) (w : World),
    runOps E ops os nx st k = some r → Sta F w0 N m Z st nx a w → wpList P ops Q os a w
  | [], nx, st, a, w, hr, L => hk st nx a w hr L
  | o :: os, nx, st, a, w, hr, L => by
    unfold runOps at hr
    unfold wpList
    cases hg : o.guard with
    | none =>
      rw [hg] at hr
      have hw : Region.wanted o (yielded ops a.tmps) = true := by unfold Region.wanted; rw [hg]
      rw [if_pos hw]
      exact .inl (doOp_ok K0 C S hr L fun st' nx' a' w' hr' L' => runOps_ok K0 C S hk os nx' st' a' w' hr' L')
    | some p =>
      obtain ⟨j, want⟩ := p
      rw [hg] at hr
      simp only at hr
      cases ht : (ops[j]?).bind (·.dst) with
      | none => rw [ht] at hr; cases hr
      | some t =>
        rw [ht] at hr
        simp only at hr
        have hwd : Region.wanted o (yielded ops a.tmps) = (yielded ops a.tmps j == some want) := by unfold Region.wanted; rw [hg]
        have hd : ∃ U ι, DR ⟨U, H st.h, ι⟩ (tf st.t t) (a.tmps.getD t undef) := by
          obtain ⟨_, U, ι, L, _⟩ := L
          exact ⟨U, ι, L.tm t⟩
        obtain ⟨U, ι, hd⟩ := hd
        have skip : ∀ {st1 : St}, Region.wanted o (yielded ops a.tmps) = false → Sta F w0 N m Z st1 nx a w → runOps E ops os nx (st1.put o.dst (.tup [])) k = some r → (if Region.wanted o (yielded ops a.tmps) then o.wp P a w (wpList P ops Q os) Q ∨ (o.asks P a w ∧ LetsOut Q) else wpList P ops Q os (a.put o.dst undef) w) := by
          intro st1 hw L1 hr1
          rw [hw]
          exact runOps_ok K0 C S hk os nx _ _ w hr1 (sta_skip L1 o.dst)
        have take : ∀ {st1 : St}, Region.wanted o (yielded ops a.tmps) = true → Sta F w0 N m Z st1 nx a w → doOp E o nx st1 (fun st nx => runOps E ops os nx st k) = some r → (if Region.wanted o (yielded ops a.tmps) then o.wp P a w (wpList P ops Q os) Q ∨ (o.asks P a w ∧ LetsOut Q) else wpList P ops Q os (a.put o.dst undef) w) := by
          intro st1 hw L1 hr1
          rw [hw]
          exact .inl (doOp_ok K0 C S hr1 L1 fun st' nx' a' w' hr' L' => runOps_ok K0 C S hk os nx' st' a' w' hr' L')
        split at hr
        · rename_i htd
          have hv : a.tmps.getD t undef = .tuple #[] := by
            rw [show tf st.t t = .tup [] from htd] at hd
            obtain ⟨vs, hv, hl⟩ := hd
            rw [hv]
            congr 1
            apply Array.toList_inj.1
            cases hvl : vs.toList with
            | nil => rfl
            | cons x l => rw [hvl] at hl; exact hl.elim
          refine skip ?_ L hr
          rw [hwd]
          rw [yielded_of ht, hv]
          rfl
        · rename_i c htd
          have hv : a.tmps.getD t undef = .bool c := by
            rw [show tf st.t t = .v .b c [] from htd] at hd
            exact (dr_b hd).1
          have hy : yielded ops a.tmps j = some c := by
            rw [yielded_of ht, hv]
          have Ls := sta_set L htd
          cases c with
          | true =>
            simp only [Br, cond_true] at hr
            have hr : (bif want then doOp E o nx (st.set t true) (fun st nx => runOps E ops os nx st k) else runOps E ops os nx ((st.set t true).put o.dst (.tup [])) k) = some r := hr
            cases want with
            | true => exact take (by rw [hwd, hy]; rfl) Ls hr
            | false => exact skip (by rw [hwd, hy]; rfl) Ls hr
          | false =>
            simp only [Br, cond_false] at hr
            have hr : (bif want then runOps E ops os nx ((st.set t false).put o.dst (.tup [])) k else doOp E o nx (st.set t false) (fun st nx => runOps E ops os nx st k)) = some r := hr
            cases want with
            | true => exact skip (by rw [hwd, hy]; rfl) Ls hr
            | false => exact take (by rw [hwd, hy]; rfl) Ls hr
        · cases hr
end
end Go.AM
end
/- Values that a state alone determines. -/
section
set_option linter.constructorNameAsVariable false
set_option linter.unusedVariables false
set_option linter.unusedSimpArgs false
set_option linter.unnecessarySimpa false
namespace Go.AM
section
variable {M : Wd}
theorem live_shp {k : Blk} (h : live k = true) : shp k ≠ none := by cases k <;> simp [live, shp] at h ⊢
theorem RR.uniq {r : Ref} {v u : Value} (hd : detR M.h r = true) (h1 : RR M r v) (h2 : RR M r u) : v = u := by
  cases r with
  | np => exact Eq.trans h1 (Eq.symm h2)
  | ns => exact Eq.trans h1 (Eq.symm h2)
  | nm => exact Eq.trans h1 (Eq.symm h2)
  | m b => exact h1.elim
  | p b =>
    obtain ⟨g, c, e1, e2⟩ := h1.2 (live_shp hd)
    obtain ⟨g', c', e1', e2'⟩ := h2.2 (live_shp hd)
    rw [e1] at e1'
    simp at e1'
    rw [e2, e2', e1'.1]
  | w b =>
    have hs := live_shp hd
    cases hq : shp (M.h b) with
    | none => exact absurd hq hs
    | some p =>
      obtain ⟨k, t, n⟩ := p
      have a1 := h1.2 k t n hq
      have a2 := h2.2 k t n hq
      cases hi : M.ι b with
      | none => rw [hi] at a1 a2; rw [a1.1, a2.1]
      | some q => rw [hi] at a1 a2; rw [a1.1, a2.1]
theorem cs_refs : ∀ (t : Ty) (x : t.den) (rs : List Ref) (r : Ref), CS.r r ∈ cs t x rs → r ∈ rs ∨ r = .np := by
  intro t
  induction t with
  | p a b iha ihb =>
    intro x rs r h
    simp only [cs, List.mem_append] at h
    rcases h with h | h
    · exact (iha _ _ r h).imp_left List.mem_of_mem_take
    · exact (ihb _ _ r h).imp_left List.mem_of_mem_drop
  | l n t ih =>
    intro (x : List t.den) rs r h
    have h' : CS.r r ∈ x.flatMap (fun y => cs t y []) := h
    obtain ⟨y, _, hy⟩ := List.mem_flatMap.1 h'
    exact (ih _ _ r hy).imp_left fun h => by simp at h
  | r k =>
    intro x rs r h
    cases rs with
    | nil => simp [cs] at h; exact .inr h
    | cons a l => simp [cs] at h; subst h; exact .inl (by simp)
  | a k n =>
    intro (x : List Int) rs r h
    have h' : CS.r r ∈ x.map fun n => CS.v (.int k n) := h
    obtain ⟨y, _, hy⟩ := List.mem_map.1 h'
    cases hy
  | u => intro x rs r h; simp [cs] at h
  | _ => intro x rs r h; simp [cs] at h
theorem all2_uniq : ∀ (l : List CS) (m m' : List Value), (∀ r, CS.r r ∈ l → detR M.h r = true) → All2 (CR M) l m → All2 (CR M) l m' → m = m'
  | [], [], [], _, _, _ => rfl
  | c :: l, v :: m, u :: m', h, h1, h2 => by
    rw [all2_uniq l m m' (fun r hr => h r (by simp [hr])) h1.2 h2.2]
    congr 1
    have a1 := h1.1
    have a2 := h2.1
    cases c with
    | v x => exact Eq.trans a1 (Eq.symm a2)
    | r r => exact RR.uniq (h r (by simp)) a1.1 a2.1
  | [], _ :: _, _, _, h, _ => h.elim
  | [], _, _ :: _, _, _, h => h.elim
  | _ :: _, [], _, _, h, _ => h.elim
  | _ :: _, _, [], _, _, h => h.elim
theorem pth_fun : ∀ {t : Ty} {q : List Stp} {off off' : Nat} {u u' : Ty}, Pth t q off u → Pth t q off' u' → off = off' ∧ u = u' := by
  intro t
  induction t with
  | p a b iha ihb =>
    intro q off off' u u' h1 h2
    cases q with
    | nil => obtain ⟨rfl, rfl⟩ := h1; obtain ⟨rfl, rfl⟩ := h2; exact ⟨rfl, rfl⟩
    | cons s q =>
      cases s with
      | f j =>
        cases j with
        | zero => exact iha h1 h2
        | succ j =>
          obtain ⟨o, rfl, h1⟩ := h1
          obtain ⟨o', rfl, h2⟩ := h2
          obtain ⟨rfl, rfl⟩ := ihb h1 h2
          exact ⟨rfl, rfl⟩
      | _ => simp [Pth] at h1
  | l n t ih =>
    intro q off off' u u' h1 h2
    cases q with
    | nil => obtain ⟨rfl, rfl⟩ := h1; obtain ⟨rfl, rfl⟩ := h2; exact ⟨rfl, rfl⟩
    | cons s q =>
      cases s with
      | i k =>
        obtain ⟨_, o, rfl, h1⟩ := h1
        obtain ⟨_, o', rfl, h2⟩ := h2
        obtain ⟨rfl, rfl⟩ := ih h1 h2
        exact ⟨rfl, rfl⟩
      | _ => simp [Pth] at h1
  | a k n =>
    intro q off off' u u' h1 h2
    cases q with
    | nil => obtain ⟨rfl, rfl⟩ := h1; obtain ⟨rfl, rfl⟩ := h2; exact ⟨rfl, rfl⟩
    | cons s q =>
      cases s with
      | o a m =>
        cases q with
        | nil =>
          cases m with
          | none => obtain ⟨_, rfl, rfl⟩ := h1; obtain ⟨_, rfl, rfl⟩ := h2; exact ⟨rfl, rfl⟩
          | some m => obtain ⟨_, rfl, rfl⟩ := h1; obtain ⟨_, rfl, rfl⟩ := h2; exact ⟨rfl, rfl⟩
        | cons _ _ => cases m <;> simp [Pth] at h1
      | _ => simp [Pth] at h1
  | _ =>
    intro q off off' u u' h1 h2
    cases q with
    | nil => obtain ⟨rfl, rfl⟩ := h1; obtain ⟨rfl, rfl⟩ := h2; exact ⟨rfl, rfl⟩
    | cons s q => simp [Pth] at h1
mutual
theorem DR.uniq : ∀ (d : D) (v u : Value), det M.h d = true → DR M d v → DR M d u → v = u
  | .no, _, _, h, _, _ => by simp [det] at h
  | .sl _ _ _, _, _, h, _, _ => by simp [det] at h
  | .v t x rs, v, u, h, h1, h2 => by
    simp only [det, List.all_eq_true] at h
    have e := all2_uniq (M := M) (cs t x rs) _ _ (fun r hr => by
      rcases cs_refs t x rs r hr with h3 | h3
      · exact h r h3
      · subst h3; rfl) h1.2.2.2 h2.2.2.2
    have e := Array.toList_inj.1 e
    have ha : isAgg v = isAgg u := h1.2.2.1.trans h2.2.2.1.symm
    cases v <;> cases u <;> simp_all [isAgg, Value.cells]
  | .tup l, v, u, h, h1, h2 => by
    simp only [det] at h
    obtain ⟨vs, rfl, h1⟩ := h1
    obtain ⟨us, rfl, h2⟩ := h2
    rw [Array.toList_inj.1 (DRL.uniq l _ _ h h1 h2)]
  | .fc t d, v, u, h, h1, h2 => by
    simp only [det] at h
    obtain ⟨x, rfl, h1⟩ := h1
    obtain ⟨y, rfl, h2⟩ := h2
    rw [DR.uniq d x y h h1 h2]
  | .nf, v, u, h, h1, h2 => Eq.trans h1 (Eq.symm h2)
  | .ip b q, v, u, h, h1, h2 => by
    simp only [det] at h
    cases hq : shp (M.h b) with
    | none => exact absurd hq (live_shp h)
    | some p =>
      obtain ⟨k, t, n⟩ := p
      obtain ⟨g, o, c, off, ty, e1, e2, e3⟩ := h1.2 k t n hq
      obtain ⟨g', o', c', off', ty', e1', e2', e3'⟩ := h2.2 k t n hq
      rw [e1] at e1'
      simp only [Option.some.injEq, Prod.mk.injEq] at e1'
      obtain ⟨rfl, rfl, rfl⟩ := e1'
      have : off = off' := by
        rcases e3 with ⟨rfl, e3⟩ | ⟨rfl, j, q', o1, rfl, hj, rfl, e3⟩ <;> rcases e3' with ⟨hk, e3'⟩ | ⟨hk, j', q'', o1', hq', hj', rfl, e3'⟩
        · exact (pth_fun e3 e3').1
        · cases hk
        · cases hk
        · simp only [List.cons.injEq, Stp.i.injEq] at hq'
          obtain ⟨rfl, rfl⟩ := hq'
          rw [(pth_fun e3 e3').1]
      rw [e2, e2', this]
  | .clo f c, v, u, h, h1, h2 => by
    simp only [det] at h
    obtain ⟨vs, rfl, h1⟩ := h1
    obtain ⟨us, rfl, h2⟩ := h2
    rw [Array.toList_inj.1 (DRL.uniq c _ _ h h1 h2)]
  | .it b, v, u, h, h1, h2 => by
    simp only [det] at h
    obtain ⟨g, c, e1, e2⟩ := h1.2 (live_shp h)
    obtain ⟨g', c', e1', e2'⟩ := h2.2 (live_shp h)
    rw [e1] at e1'
    simp at e1'
    rw [e2, e2', e1'.1]
theorem DRL.uniq : ∀ (l : List D) (m m' : List Value), detL M.h l = true → DRL M l m → DRL M l m' → m = m'
  | [], [], [], _, _, _ => rfl
  | d :: l, v :: m, u :: m', h, h1, h2 => by
    simp only [detL, Bool.and_eq_true] at h
    rw [DR.uniq d v u h.1 h1.1 h2.1, DRL.uniq l m m' h.2 h1.2 h2.2]
  | [], _ :: _, _, _, h, _ => h.elim
  | [], _, _ :: _, _, _, h => h.elim
  | _ :: _, [], _, _, h, _ => h.elim
  | _ :: _, _, [], _, _, h => h.elim
end
end
end Go.AM
end
/- Regions that draw their order. -/
section
set_option linter.constructorNameAsVariable false
set_option linter.unusedVariables false
set_option linter.unusedSimpArgs false
set_option linter.unnecessarySimpa false
namespace Go.AM
section
variable {P : Program} {K : Nat} {Gl : World → Prop} {F : Nat → Prop} {w0 w w' : World} {N : Nat} {U : Nat → Prop} {T : Nat → D} {h : Nat → Blk} {ι : Nat → Option (Nat × Nat × Nat)} {a : Act} {Q : Exit → Act → World → Prop} {E : Env} {o : Oper} {nx : Nat} {e : Eff} {M M' : Wd} {R : Type}
/-- The worlds that a state of blocks stands for. -/
def Cl (F : Nat → Prop) (w0 : World) (M : Wd) (w : World) : Prop := (∀ b, BR M w b) ∧ Fr F w0 w
theorem Rel.cl (L : Rel F w0 N M T a w) (h : Cl F w0 M w') : Rel F w0 N M T a w' := ⟨L.size, L.tm, h.1, L.un, L.sp, L.ft, h.2, L.df⟩
/-- An operation that is quiet: one value in every world of the class. -/
theorem quiet_of (K0 : TOk P E) (C : EOk P K Gl E) (S : Sd K Gl F w0) (L : Rel F w0 N ⟨U, h, ι⟩ T a w) (he : (exo E nx (ev T) h o).to e) (hq : quietE h nx e = true)
    (hd : ∀ w', Cl F w0 ⟨U, h, ι⟩ w' → Did P ⟨U, h, ι⟩ F w0 w' e.1 ((execOp a.eval o).run P w')) (hw : ∃ w', Cl F w0 ⟨U, h, ι⟩ w' ∧ ∃ v, DR ⟨U, h, ι⟩ e.1 v) : ∃ v, DR ⟨U, h, ι⟩ e.1 v ∧ ∀ w', Cl F w0 ⟨U, h, ι⟩ w' → o.quietAt P a (Cl F w0 ⟨U, h, ι⟩) w' v := by
  obtain ⟨_, _, v, hv⟩ := hw
  simp only [quietE, Bool.and_eq_true] at hq
  refine ⟨v, hv, fun w' hw' => ?_⟩
  have := hd w' hw'
  unfold Oper.quietAt
  revert this
  generalize (execOp a.eval o).run P w' = rr
  intro G
  cases rr with
  | ok n w1 =>
    cases n <;> first | exact G.elim | skip
    case value u =>
      obtain ⟨rfl, hu⟩ := G
      exact ⟨rfl, DR.uniq e.1 u v hq.1.2 hu hv⟩
    case enter f args =>
      obtain ⟨rfl, hc⟩ := G
      refine ⟨rfl, Calls.mono hc fun en w2 ⟨u, hu, h1, h2, h3⟩ => ⟨?_, h2, h3⟩⟩
      rw [hu, DR.uniq e.1 u v hq.1.2 h1 hv]
  | halt x w1 => exact G.elim
end
end Go.AM
end
/- Regions that draw their order: the walk in index order. -/
section
set_option linter.constructorNameAsVariable false
set_option linter.unusedVariables false
set_option linter.unusedSimpArgs false
set_option linter.unnecessarySimpa false
namespace Go.AM
section
variable {P : Program} {K : Nat} {Gl : World → Prop} {F : Nat → Prop} {w0 w w' : World} {N : Nat} {U : Nat → Prop} {T : Nat → D} {h : Nat → Blk} {ι : Nat → Option (Nat × Nat × Nat)} {a : Act} {Q : Exit → Act → World → Prop} {E : Env} {o : Oper} {nx : Nat} {e : Eff} {M M' Z : Wd} {R : Type} {m : Nat}
/-- What a walk of the rest of a region shows. -/
def Drew (P : Program) (ops : Array Oper) (Q : Exit → Act → World → Prop) (C : World → Prop) (os : List Oper) (i : Nat) (a : Act) : Prop :=
  (Region.lexB .any ops = true ∧ wpQuiet P ops C (fun a' => ∀ w', C w' → Q .normal a' w') os a) ∨
  ∃ n, Region.lexTailB .any ops (i + n) = true ∧ wpQuiet P ops C (fun a' => ∀ w', C w' → wpList P ops Q (os.drop n) a' w') (os.take n) a
theorem Drew.cons {ops : Array Oper} {C : World → Prop} {os : List Oper} {i : Nat} (hc : ∀ Y : Act → Prop, ∀ os', wpQuiet P ops C Y (o :: os') a ↔ (if Region.wanted o (yielded ops a.tmps) then o.quiet P a C (wpQuiet P ops C Y os') else wpQuiet P ops C Y os' (a.put o.dst undef)))
    {v : Value} (hq : Region.wanted o (yielded ops a.tmps) = true ∧ (∀ w', C w' → o.quietAt P a C w' v) ∨ Region.wanted o (yielded ops a.tmps) = false ∧ v = undef) (D : Drew P ops Q C os (i + 1) (a.put o.dst v)) : Drew P ops Q C (o :: os) i a := by
  have step : ∀ (Y : Act → Prop) os', wpQuiet P ops C Y os' (a.put o.dst v) → wpQuiet P ops C Y (o :: os') a := by
    intro Y os' hY
    rw [hc]
    rcases hq with ⟨h1, h2⟩ | ⟨h1, rfl⟩
    · rw [if_pos h1]; exact ⟨v, h2, hY⟩
    · rw [h1]; exact hY
  rcases D with ⟨h1, h2⟩ | ⟨n, h1, h2⟩
  · exact .inl ⟨h1, step _ _ h2⟩
  · refine .inr ⟨n + 1, by rw [show i + (n + 1) = i + 1 + n by omega]; exact h1, ?_⟩
    exact step _ _ h2
theorem calls_some {f : FuncId} {args : Array Value} {R : Ending → World → Prop} (h : Calls P f args w R) : ∃ e w', R e w' := by
  obtain ⟨e, w', _, hR, _⟩ := h []
  exact ⟨e, w', hR⟩
theorem doQ_ok (K0 : TOk P E) (C : EOk P K Gl E) (S : Sd K Gl F w0) {ops : Array Oper} {k : St → Nat → Option R} {r : R} {hs : List Blk} (hf : ∀ j, nx ≤ j → ¬ U j) (hkp : Kp m Z ⟨U, H hs, ι⟩)
    (hk : ∀ st nx a w, k st nx = some r → Sta F w0 N m Z st nx a w → Q .normal a w) {w1 : World} (hw1 : Cl F w0 ⟨U, H hs, ι⟩ w1) {os : List Oper} {i : Nat} {st : St} {q : St → Option R} (hh : st.h = hs) (hN : st.t.length = N)
    (hr : doQ E ops o os i nx st k q = some r) (L : Rel F w0 N ⟨U, H hs, ι⟩ (tf st.t) a w1) (hw : Region.wanted o (yielded ops a.tmps) = true)
    (ih : ∀ st' a', st'.h = hs → st'.t.length = N → q st' = some r → Rel F w0 N ⟨U, H hs, ι⟩ (tf st'.t) a' w1 → Drew P ops Q (Cl F w0 ⟨U, H hs, ι⟩) os (i + 1) a') : Drew P ops Q (Cl F w0 ⟨U, H hs, ι⟩) (o :: os) i a := by
  subst hh
  unfold doQ at hr
  obtain ⟨e, he, hr⟩ := G.bind_some _ _ _ hr
  cases hq : quietE (H st.h) nx e with
  | true =>
    rw [hq] at hr
    have he0 : e.2.1 = [] := by
      simp only [quietE, Bool.and_eq_true, List.isEmpty_iff] at hq
      exact hq.1.1
    have hd : ∀ w', Cl F w0 ⟨U, H st.h, ι⟩ w' → Did P ⟨U, H st.h, ι⟩ F w0 w' e.1 ((execOp a.eval o).run P w') := fun w' hw' => by
      rcases okG_all (o := o) K0 C F w0 w' N U (tf st.t) (H st.h) ι a Q nx e S (L.cl hw') he (fun j h1 _ => hf j h1) with ⟨_, G⟩ | ⟨h1, _⟩
      · exact G
      · exact absurd he0 h1
    have hv : ∃ w', Cl F w0 ⟨U, H st.h, ι⟩ w' ∧ ∃ v, DR ⟨U, H st.h, ι⟩ e.1 v := by
      refine ⟨w1, hw1, ?_⟩
      have := hd w1 hw1
      revert this
      generalize (execOp a.eval o).run P w1 = rr
      intro G
      cases rr with
      | ok n w2 =>
        cases n <;> first | exact G.elim | skip
        case value v => exact ⟨v, G.2⟩
        case enter f args => obtain ⟨_, _, v, _, hv, _⟩ := calls_some G.2; exact ⟨v, hv⟩
      | halt x w2 => exact G.elim
    obtain ⟨v, hv, hquiet⟩ := quiet_of K0 C S L he hq hd hv
    obtain ⟨p1, p2, p3⟩ := tf_put st o.dst e.1
    refine Drew.cons (fun _ _ => Iff.rfl) (.inl ⟨hw, hquiet⟩) (ih _ _ p3 (by rw [p2, hN]) hr ?_)
    rw [p1, hN]
    exact L.put o.dst hv
  | false =>
    rw [hq] at hr
    cases hok : okE nx e with
    | false => rw [hok] at hr; cases hr
    | true =>
      cases hl : Region.lexTailB .any ops i with
      | false => rw [hok, hl] at hr; cases hr
      | true =>
        rw [hok, hl] at hr
        have hr : runOps E ops os e.2.2 (st.app o.dst e) k = some r := hr
        refine .inr ⟨0, hl, fun w' hw' => ?_⟩
        show wpList P ops Q (o :: os) a w'
        unfold wpList
        rw [if_pos hw]
        exact .inl (step_ok K0 C S he hok ⟨hN, U, ι, L.cl hw', hf, hkp⟩ fun a' w2 L' => runOps_ok K0 C S hk os _ _ a' w2 hr L')
theorem runDraw_ok (K0 : TOk P E) (C : EOk P K Gl E) (S : Sd K Gl F w0) {ops : Array Oper} {k : St → Nat → Option R} {r : R} {hs : List Blk} (hf : ∀ j, nx ≤ j → ¬ U j) (hkp : Kp m Z ⟨U, H hs, ι⟩)
    (hk : ∀ st nx a w, k st nx = some r → Sta F w0 N m Z st nx a w → Q .normal a w) {w1 : World} (hw1 : Cl F w0 ⟨U, H hs, ι⟩ w1) : ∀ (os : List Oper) (i : Nat) (st : St) (a : Act), st.h = hs → st.t.length = N →
    runDraw E ops os i nx st k = some r → Rel F w0 N ⟨U, H hs, ι⟩ (tf st.t) a w1 → Drew P ops Q (Cl F w0 ⟨U, H hs, ι⟩) os i a
  | [], i, st, a, hh, hN, hr, L => by
    subst hh
    unfold runDraw at hr
    cases hl : Region.lexB .any ops with
    | false => rw [hl] at hr; cases hr
    | true =>
      rw [hl] at hr
      exact .inl ⟨hl, fun w' hw' => hk st nx a w' hr ⟨hN, U, ι, L.cl hw', hf, hkp⟩⟩
  | o :: os, i, st, a, hh, hN, hr, L => by
    have ih := fun (st' : St) (a' : Act) h1 h2 (h3 : runDraw E ops os (i + 1) nx st' k = some r) h4 => runDraw_ok K0 C S hf hkp hk hw1 os (i + 1) st' a' h1 h2 h3 h4
    unfold runDraw at hr
    cases hg : o.guard with
    | none =>
      rw [hg] at hr
      have hw : Region.wanted o (yielded ops a.tmps) = true := by unfold Region.wanted; rw [hg]
      exact doQ_ok K0 C S hf hkp hk hw1 hh hN hr L hw ih
    | some p =>
      obtain ⟨j, want⟩ := p
      rw [hg] at hr
      simp only at hr
      cases ht : (ops[j]?).bind (·.dst) with
      | none => rw [ht] at hr; cases hr
      | some t =>
        rw [ht] at hr
        simp only at hr
        have hwd : Region.wanted o (yielded ops a.tmps) = (yielded ops a.tmps j == some want) := by unfold Region.wanted; rw [hg]
        have hd := L.tm t
        have skip : ∀ {st1 : St}, Region.wanted o (yielded ops a.tmps) = false → st1.h = hs → st1.t.length = N → Rel F w0 N ⟨U, H hs, ι⟩ (tf st1.t) a w1 → runDraw E ops os (i + 1) nx (st1.put o.dst (.tup [])) k = some r → Drew P ops Q (Cl F w0 ⟨U, H hs, ι⟩) (o :: os) i a := by
          intro st1 hw h1 h2 L1 hr1
          obtain ⟨p1, p2, p3⟩ := tf_put st1 o.dst (.tup [])
          refine Drew.cons (fun _ _ => Iff.rfl) (.inr ⟨hw, rfl⟩) (ih _ _ (by rw [p3, h1]) (by rw [p2, h2]) hr1 ?_)
          rw [p1, h2]
          exact L1.put o.dst ⟨#[], rfl, trivial⟩
        split at hr
        · rename_i htd
          have hv : a.tmps.getD t undef = .tuple #[] := by
            rw [show tf st.t t = .tup [] from htd] at hd
            obtain ⟨vs, hv, hl⟩ := hd
            rw [hv]
            congr 1
            apply Array.toList_inj.1
            cases hvl : vs.toList with
            | nil => rfl
            | cons x l => rw [hvl] at hl; exact hl.elim
          refine skip ?_ hh hN L hr
          rw [hwd, yielded_of ht, hv]
          rfl
        · rename_i c htd
          have hv : a.tmps.getD t undef = .bool c := by
            rw [show tf st.t t = .v .b c [] from htd] at hd
            exact (dr_b hd).1
          have hy : yielded ops a.tmps j = some c := by
            rw [yielded_of ht, hv]
          have Ls : Rel F w0 N ⟨U, H hs, ι⟩ (tf (st.set t c).t) a w1 := by
            have := (set_same (t := st.t) (i := t) (d := .v .b c []) htd (by simp)).1
            show Rel F w0 N _ (tf (st.t.set t (.v .b c []))) a w1
            rw [this]; exact L
          have hlen : (st.set t c).t.length = N := by show (st.t.set t _).length = N; rw [List.length_set, hN]
          cases c with
          | true =>
            simp only [Br, cond_true] at hr
            cases want with
            | true => exact doQ_ok (q := fun st => runDraw E ops os (i + 1) nx st k) K0 C S hf hkp hk hw1 (st := st.set t true) hh hlen hr Ls (by rw [hwd, hy]; rfl) ih
            | false => exact skip (st1 := st.set t true) (by rw [hwd, hy]; rfl) hh hlen Ls hr
          | false =>
            simp only [Br, cond_false] at hr
            cases want with
            | true => exact skip (st1 := st.set t false) (by rw [hwd, hy]; rfl) hh hlen Ls hr
            | false => exact doQ_ok (q := fun st => runDraw E ops os (i + 1) nx st k) K0 C S hf hkp hk hw1 (st := st.set t false) hh hlen hr Ls (by rw [hwd, hy]; rfl) ih
        · cases hr
theorem fr_drawn (f : Fr F w0 w) : Fr F w0 { w with drawn := w.drawn + 1 } := ⟨f.os, f.tape, f.output, f.size, f.block⟩
theorem br_drawn {b : Nat} (h : BR M w b) : BR M { w with drawn := w.drawn + 1 } b := h
theorem region_draw (K0 : TOk P E) (C : EOk P K Gl E) (S : Sd K Gl F w0) (hm : P.follows .mixedOrders = true) {id : Nat} {ops : Array Oper} {k : St → Nat → Option R} {r : R} {st : St}
    (hk : ∀ st nx a w, k st nx = some r → Sta F w0 N m Z st nx a w → Q .normal a w) (hr : runDraw E ops ops.toList 0 nx st k = some r) (L : Sta F w0 N m Z st nx a w) : (Code.region id ops true).wp P Q a w := by
  obtain ⟨hN, U, ι, L, hf, hkp⟩ := L
  have hcl : Cl F w0 ⟨U, H st.h, ι⟩ { w with drawn := w.drawn + 1 } := ⟨fun b => br_drawn (L.bl b), fr_drawn L.fr⟩
  rcases runDraw_ok K0 C S hf hkp hk hcl ops.toList 0 st a rfl hN hr (L.cl hcl) with ⟨h1, h2⟩ | ⟨n, h1, h2⟩
  · exact wp_region_quiet hm h1 hcl h2
  · rw [Nat.zero_add] at h1
    exact region_tail hm h1 hcl h2
end
end Go.AM
end
/- Slicing reads no memory. -/
section
set_option linter.constructorNameAsVariable false
set_option linter.unusedVariables false
set_option linter.unusedSimpArgs false
namespace Go.AM
def Pu {α : Type} (s : Sem α) : Prop := ∀ P w v w1, s.run P w = .ok v w1 → w1 = w ∧ ∀ w', s.run P w' = .ok v w'
theorem pu_pure {α : Type} (v : α) : Pu (pure v : Sem α) := fun P w u w1 h => by
  simp at h
  exact ⟨h.2.symm, fun w' => by simp [h.1]⟩
theorem pu_bind {α β : Type} {s : Sem α} {f : α → Sem β} (hs : Pu s) (hf : ∀ a, Pu (f a)) : Pu (s >>= f) := fun P w v w1 h => by
  rw [Sem.run_bind] at h
  cases hq : s.run P w with
  | halt e w2 => rw [hq] at h; cases h
  | ok a w2 =>
    rw [hq] at h
    obtain ⟨rfl, h2⟩ := hs P w a w2 hq
    obtain ⟨rfl, h3⟩ := hf a P _ v w1 h
    exact ⟨rfl, fun w' => by rw [Sem.run_bind, h2]; exact h3 w'⟩
theorem pu_halt {α : Type} {s : Sem α} (h : ∀ P w, ∃ e w', s.run P w = .halt e w') : Pu s := fun P w v w1 hq => by
  obtain ⟨e, w', h⟩ := h P w
  rw [h] at hq
  cases hq
theorem pu_underlying (t : TypeId) : Pu (underlying t) := fun P w v w1 h => by
  cases hu : P.underlying t with
  | none => simp [underlying, hu, Sem.run_bind] at h
  | some d =>
    have e := fun w' : World => run_underlying (P := P) (w := w') hu
    rw [e] at h
    cases h
    exact ⟨rfl, e⟩
theorem pu_sizeOf (t : TypeId) : Pu (sizeOf t) := fun P w v w1 h => by
  cases hu : P.info? t with
  | none => simp [sizeOf, typeInfo, hu, Sem.run_bind] at h
  | some i =>
    have e : ∀ w' : World, (sizeOf t).run P w' = .ok i.size w' := fun w' => by simp [sizeOf, typeInfo, hu, Sem.run_bind]
    rw [e] at h
    cases h
    exact ⟨rfl, e⟩
theorem pu_asIntOf (v : Value) : Pu (asIntOf v) := by
  unfold asIntOf
  split
  · exact pu_pure _
  · exact pu_halt fun P w => ⟨_, _, rfl⟩
  · exact pu_halt fun P w => ⟨_, _, rfl⟩
theorem pu_asAddr (v : Value) : Pu (asAddr v) := by
  unfold asAddr
  split
  · exact pu_pure _
  · exact pu_halt fun P w => ⟨_, _, rfl⟩
  · exact pu_halt fun P w => ⟨_, _, rfl⟩
theorem pu_bound (x : Value) (y : Nat) (c : BoundsCode) : Pu (Instr.sliceBound x y c) := by
  unfold Instr.sliceBound
  refine pu_bind (pu_asIntOf x) fun p => ?_
  obtain ⟨k, i⟩ := p
  simp only
  split
  · exact pu_pure _
  · exact pu_halt fun P w => by
      unfold boundsPanic
      first | exact ⟨_, _, rfl⟩ | (split <;> exact ⟨_, _, rfl⟩)
theorem pu_bounds (z : Bool) (l c : Nat) (lo hi : Option Value) : Pu (Instr.sliceBounds z l c lo hi none) := by
  unfold Instr.sliceBounds
  dsimp only
  refine pu_bind (pu_pure _) fun m => ?_
  cases hi with
  | none =>
    dsimp only
    refine pu_bind (pu_pure _) fun h => ?_
    cases lo with
    | none => exact pu_bind (pu_pure _) fun l => pu_pure _
    | some v => exact pu_bind (pu_bound _ _ _) fun l => pu_pure _
  | some u =>
    dsimp only
    refine pu_bind (pu_bound _ _ _) fun h => ?_
    cases lo with
    | none => exact pu_bind (pu_pure _) fun l => pu_pure _
    | some v => exact pu_bind (pu_bound _ _ _) fun l => pu_pure _
theorem pu_slice (t : TypeId) (x : Value) (lo hi : Option Value) : Pu (Instr.sliceAt t x lo hi none) := by
  unfold Instr.sliceAt
  refine pu_bind (pu_underlying t) fun d => ?_
  split
  · refine pu_bind ?_ fun a => pu_bind (pu_bounds _ _ _ _ _) fun b => ?_
    · unfold Instr.sureAddr
      split
      · exact pu_pure _
      · exact pu_halt fun P w => ⟨_, _, rfl⟩
    · exact pu_bind (pu_sizeOf _) fun n => pu_pure _
  · unfold Instr.slice
    refine pu_bind (pu_underlying t) fun d => ?_
    split
    · exact pu_bind (pu_bounds _ _ _ _ _) fun b => pu_pure _
    · exact pu_bind (pu_bounds _ _ _ _ _) fun b => pu_bind (pu_sizeOf _) fun n => pu_pure _
    · refine pu_bind (pu_asAddr _) fun a => pu_bind (pu_underlying _) fun d => ?_
      split
      · exact pu_bind (pu_bounds _ _ _ _ _) fun b => pu_bind (pu_sizeOf _) fun n => pu_pure _
      · exact pu_halt fun P w => ⟨_, _, rfl⟩
    · exact pu_halt fun P w => ⟨_, _, rfl⟩
end Go.AM
end
/- Regions whose operations come in whatever order. -/
section
set_option linter.constructorNameAsVariable false
set_option linter.unusedVariables false
set_option linter.unusedSimpArgs false
set_option linter.unnecessarySimpa false
set_option linter.unusedSectionVars false
namespace Go.AM
section
variable {P : Program} {K : Nat} {Gl : World → Prop} {F : Nat → Prop} {w0 w w' : World} {N : Nat} {U : Nat → Prop} {T : Nat → D} {h : Nat → Blk} {ι : Nat → Option (Nat × Nat × Nat)} {a : Act} {Q : Exit → Act → World → Prop} {E : Env} {o : Oper} {nx : Nat} {e : Eff} {M M' Z : Wd} {R : Type} {m : Nat} {ops : Array Oper} {D : World → Prop}
def QF : Exit → Act → World → Prop := fun _ _ _ => False
def wD (P : Program) (ops : Array Oper) (D : World → Prop) (i : Nat) (K : Act → World → Prop) (a : Act) (w : World) : Prop :=
  match ops[i]? with
  | none => K a w
  | some o => if Region.wanted o (yielded ops a.tmps) then o.wp P a w (fun a' w' => D w' ∧ K a' w') QF else K (a.put o.dst undef) w
def wA (P : Program) (ops : Array Oper) (D : World → Prop) (Q : Exit → Act → World → Prop) : Nat → Array Bool → Act → World → Prop
  | 0, l, a, w => Region.ready .any ops l = [] ∧ Q .normal a w
  | f + 1, l, a, w => (Region.ready .any ops l = [] → Q .normal a w) ∧ ∀ i ∈ Region.ready .any ops l, wD P ops D i (wA P ops D Q f (l.setIfInBounds i true)) a w
theorem upon_any {r : Result Next} {Kn K' : Act → World → Prop} (hK : ∀ a w, Kn a w → K' a w) (h : o.upon P a Kn QF r) : o.upon P a K' Q r := by
  cases r with
  | ok n w' =>
    cases n <;> first | exact h.elim | skip
    case value v => exact hK _ _ h
    case skip => exact hK _ _ h
    case defer d => exact hK _ _ h
    case enter f args =>
      refine Calls.mono h fun e w'' he => ?_
      cases e with
      | returned v => exact hK _ _ he
      | panicked c => exact he.elim
      | outgrown => obtain ⟨_, _, he⟩ := he; exact he.elim
    case row r args => exact Rows.mono h fun v w'' he => hK _ _ he
  | halt x w' => cases x <;> exact h.elim
theorem wA_any : ∀ (f : Nat) (l : Array Bool) (a : Act) (w : World), wA P ops D Q f l a w → wpAny P .any ops Q f l a w
  | 0, _, _, _, h => h
  | f + 1, l, a, w, h => ⟨h.1, fun i hi => by
    have := h.2 i hi
    unfold wD at this
    unfold wpOp
    split
    · rename_i ho; rw [ho] at this; exact wA_any f _ _ _ this
    · rename_i o ho
      rw [ho] at this
      simp only at this
      split
      · rename_i hw; rw [if_pos hw] at this; exact .inl (upon_any (fun a w h => wA_any f _ _ _ h.2) this)
      · rename_i hw; rw [if_neg hw] at this; exact wA_any f _ _ _ this⟩
/-- An operation yields this, in the very world that it got. -/
def Yv (P : Program) (ops : Array Oper) (D : World → Prop) (o : Oper) (v : Value) (a : Act) : Prop :=
  (Region.wanted o (yielded ops a.tmps) = true ∧ ∀ w, D w → (execOp a.eval o).run P w = .ok (.value v) w) ∨ (Region.wanted o (yielded ops a.tmps) = false ∧ v = undef)
theorem upon_put {oj : Oper} {dst : Option Tmp} {v : Value} (hne : ∀ d, dst = some d → oj.dst ≠ some d) {Kn : Act → World → Prop} {Y : Act → Prop} (hY : ∀ u, Y (a.put oj.dst u)) (hYd : ∀ d u, Y ({ a with defers := d :: a.defers }.put oj.dst u)) {r : Result Next}
    (h : oj.upon P (a.put dst v) Kn QF r) : oj.upon P a (fun a' w' => Y a' ∧ Kn (a'.put dst v) w') QF r := by
  have cm : ∀ (b : Act) u, (b.put dst v).put oj.dst u = (b.put oj.dst u).put dst v := fun b u => Act.put_comm b v u hne
  cases r with
  | ok n w' =>
    cases n <;> first | exact h.elim | skip
    case value u => exact ⟨hY u, by rw [← cm]; exact h⟩
    case skip => exact ⟨hY _, by rw [← cm]; exact h⟩
    case defer d =>
      refine ⟨hYd d _, ?_⟩
      rw [← cm]
      have e : ({ a with defers := d :: a.defers }.put dst v) = { (a.put dst v) with defers := d :: (a.put dst v).defers } := by cases dst <;> rfl
      rw [e]
      exact h
    case enter f args =>
      refine Calls.mono h fun e w'' he => ?_
      cases e with
      | returned u => exact ⟨hY u, by rw [← cm]; exact he⟩
      | panicked c => exact he.elim
      | outgrown => obtain ⟨_, _, he⟩ := he; exact he.elim
    case row r args => exact Rows.mono h fun u w'' he => ⟨hY u, by rw [← cm]; exact he⟩
  | halt x w' => cases x <;> exact h.elim
/-- What can come now may come first, if it floats. -/
theorem wA_first {i : Nat} {oi : Oper} {v : Value} (hi : ops[i]? = some oi) (hsel : ∀ (j : Nat) (o : Oper) cs b, ops[j]? = some o → o.op ≠ .select cs b) : ∀ (f : Nat) (l : Array Bool) (a : Act) (w : World), D w →
    (∀ j oj, ops[j]? = some oj → j ≠ i → l.getD j true = false → (∀ e ∈ oj.after, Region.binds .any e = true → e.on ≠ i) → oi.apart ops oj = true) → i ∈ Region.ready .any ops l → Yv P ops D oi v a →
    wA P ops D Q f (l.setIfInBounds i true) (a.put oi.dst v) w → wA P ops D Q (f + 1) l a w := by
  intro f
  induction f with
  | zero =>
    intro l a w hD hfree hr hy H
    refine ⟨fun h => (by rw [h] at hr; cases hr), fun j hj => ?_⟩
    by_cases hji : j = i
    · subst hji
      unfold wD
      rw [hi]
      rcases hy with ⟨h1, h2⟩ | ⟨h1, rfl⟩
      · simp only [h1, if_true]
        unfold Oper.wp
        rw [h2 w hD]
        exact ⟨hD, H⟩
      · simp only [h1, Bool.false_eq_true, if_false]; exact H
    · have := ready_mono hj hji
      rw [H.1] at this
      cases this
  | succ f ih =>
    intro l a w hD hfree hr hy H
    refine ⟨fun h => (by rw [h] at hr; cases hr), fun j hj => ?_⟩
    by_cases hji : j = i
    · subst hji
      unfold wD
      rw [hi]
      rcases hy with ⟨h1, h2⟩ | ⟨h1, rfl⟩
      · simp only [h1, if_true]
        unfold Oper.wp
        rw [h2 w hD]
        exact ⟨hD, H⟩
      · simp only [h1, Bool.false_eq_true, if_false]; exact H
    · have hj2 := ready_mono hj hji
      obtain ⟨hun, oj, hoj, hall⟩ := mem_ready.1 hj
      have hap := hfree j oj hoj hji hun fun e he hb heq => by
        have h1 := hall e he hb
        rw [heq, getD_both (mem_ready.1 hr).1] at h1
        cases h1
      obtain ⟨a1, a2, a3⟩ := Oper.apart_spec hap
      have G := H.2 j hj2
      unfold wD at G ⊢
      rw [hoj] at G ⊢
      simp only at G ⊢
      rw [wanted_put oj a oi.dst v a1] at G
      have keep : ∀ (b : Act), b.tmps = a.tmps → ∀ u, Yv P ops D oi v (b.put oj.dst u) := fun b hb u => by
        have e1 : execOp (b.put oj.dst u).eval oi = execOp a.eval oi := by
          rw [execOp_put oi (fun cs b => hsel i oi cs b hi) b oj.dst u a3]
          congr 1
          funext x
          cases x <;> simp [Act.eval, hb]
        have e2 : Region.wanted oi (yielded ops (b.put oj.dst u).tmps) = Region.wanted oi (yielded ops a.tmps) := by rw [wanted_put oi b oj.dst u a3, hb]
        unfold Yv at hy ⊢
        rw [e1, e2]
        exact hy
      have nxt : ∀ a' w', D w' → Yv P ops D oi v a' → wA P ops D Q f ((l.setIfInBounds i true).setIfInBounds j true) (a'.put oi.dst v) w' → wA P ops D Q (f + 1) (l.setIfInBounds j true) a' w' := fun a' w' hD' hy' H' => by
        refine ih (l.setIfInBounds j true) a' w' hD' (fun k ok hk hki hun' hno => hfree k ok hk hki ?_ hno) (ready_mono hr fun e => hji e.symm) hy' ?_
        · by_cases hjk : j = k
          · subst hjk; exact hun
          · rw [getD_set_ne true hjk] at hun'; exact hun'
        · rw [Array.setIfInBounds_comm _ _ hji]; exact H'
      split
      · rename_i hw
        rw [if_pos hw] at G
        unfold Oper.wp at G ⊢
        rw [execOp_put oj (fun cs b => hsel j oj cs b hoj) a oi.dst v a1] at G
        refine upon_any (Q := QF) ?_ (upon_put a2 (Y := Yv P ops D oi v) (fun u => keep a rfl u) (fun d u => keep { a with defers := d :: a.defers } rfl u) G)
        exact fun a' w' ⟨hy', hD', H'⟩ => ⟨hD', nxt a' w' hD' hy' H'⟩
      · rename_i hw
        rw [if_neg hw] at G
        refine nxt _ w hD (keep a rfl undef) ?_
        rw [← Act.put_comm a v undef a2]
        exact G
/-! ### What floats -/
theorem run_value {s : Sem Value} {n : Next} (h : (do pure (Next.value (← s)) : Sem Next).run P w = .ok n w') : ∃ u, n = .value u := by
  rw [Sem.run_bind] at h
  cases hs : s.run P w with
  | ok u w2 => rw [hs] at h; simp at h; exact ⟨u, h.1.symm⟩
  | halt x w2 => rw [hs] at h; cases h
theorem flt_value (hf : flt o = true) (hn : ∀ x, o.op ≠ .nilCheck x) {n : Next} (h : (execOp a.eval o).run P w = .ok n w') : ∃ u, n = .value u := by
  unfold flt at hf
  cases ho : o.op <;> rw [ho] at hf <;> first | (simp at hf; done) | skip
  case nilCheck x => exact absurd ho (hn x)
  case pick c x y =>
    simp only [execOp, ho] at h
    rw [Sem.run_bind] at h
    cases hq : (asBool (a.eval c)).run P w with
    | ok u w2 => rw [hq] at h; simp at h; exact ⟨_, h.1.symm⟩
    | halt u w2 => rw [hq] at h; cases h
  all_goals simp only [execOp, ho] at h
  all_goals first
    | exact run_value h
    | (simp at h; exact ⟨_, h.1.symm⟩)
def Sm (W : List Nat) (h0 : List Blk) (h : Nat → Blk) : Prop := ∀ b, match H h0 b with
  | .o t x rs => (W.contains b = false → h b = .o t x rs) ∧ ∃ y qs, h b = .o t y qs
  | .w e t l own => W.contains b = false → h b = .w e t l own
  | .sh t => h b = .sh t
  | _ => True
theorem sm_refl (W : List Nat) (h0 : List Blk) : Sm W h0 (H h0) := fun b => by
  cases hb : H h0 b with
  | o t x rs => exact ⟨fun _ => rfl, _, _, rfl⟩
  | w e t l own => exact fun _ => rfl
  | sh t => exact rfl
  | it s p => trivial
  | de => trivial
theorem sm_upd {W : List Nat} {h0 : List Blk} : ∀ (us : List (Nat × Blk)) (h : Nat → Blk), Sm W h0 h → us.all (keepU W h0) = true → Sm W h0 (updH h us)
  | [], h, s, _ => s
  | (c, k) :: us, h, s, hk => by
    simp only [List.all_cons, Bool.and_eq_true] at hk
    refine sm_upd us (fun b => if b = c then k else h b) (fun b => ?_) hk.2
    have sb := s b
    have hk1 := hk.1
    unfold keepU at hk1
    by_cases hbc : b = c
    · subst hbc
      simp only [if_true]
      cases hb : H h0 b with
      | o t x rs =>
        simp only [hb, Bool.and_eq_true] at hk1 sb ⊢
        refine ⟨fun hw => by rw [hw] at hk1; simp at hk1, ?_⟩
        have h2 := hk1.2
        cases k with
        | o t' y qs => simp at h2; subst h2; exact ⟨y, qs, rfl⟩
        | _ => simp at h2
      | w e t l own => simp only [hb] at hk1 ⊢; intro hw; rw [hw] at hk1; cases hk1
      | sh t => simp [hb] at hk1
      | it s p => trivial
      | de => trivial
    · simp only [if_neg hbc]; exact sb
/-- The world of the shapes. -/
def shM (W : List Nat) (h0 : List Blk) (ι0 : Nat → Option (Nat × Nat × Nat)) : Wd := ⟨fun _ => True, hB W h0, ι0⟩
theorem hb_cur {W : List Nat} {h0 : List Blk} {U0 : Nat → Prop} {ι0 : Nat → Option (Nat × Nat × Nat)} (un0 : ∀ b, ¬ U0 b → H h0 b = .de) (ex : Ext ⟨U0, H h0, ι0⟩ ⟨U, h, ι⟩) (sm : Sm W h0 h) {b : Nat} (hd : hB W h0 b ≠ .de) :
    U b ∧ shp (hB W h0 b) = shp (h b) ∧ ι b = ι0 b ∧ h b ≠ .de ∧ (hB W h0 b = h b ∨ ∃ t, hB W h0 b = .sh t ∧ (h b = .sh t ∨ ∃ y qs, h b = .o t y qs)) := by
  have h0d : H h0 b ≠ .de := fun e => hd (by unfold hB; rw [e])
  have hU : U0 b := Classical.byContradiction fun hn => h0d (un0 b hn)
  obtain ⟨hu, hx⟩ := ex b hU
  have key : shp (hB W h0 b) = shp (h b) ∧ h b ≠ .de ∧ (hB W h0 b = h b ∨ ∃ t, hB W h0 b = .sh t ∧ (h b = .sh t ∨ ∃ y qs, h b = .o t y qs)) := by
    have sb := sm b
    unfold hB at hd ⊢
    cases hb : H h0 b with
    | o t x rs =>
      rw [hb] at hd sb
      simp only at hd sb ⊢
      split
      · obtain ⟨_, y, qs, hy⟩ := sb
        rw [hy]
        exact ⟨rfl, by simp, .inr ⟨t, rfl, .inr ⟨y, qs, rfl⟩⟩⟩
      · rename_i hw
        rw [sb.1 (by simpa using hw)]
        exact ⟨rfl, by simp, .inl rfl⟩
    | w e t l own =>
      rw [hb] at hd sb
      simp only at hd sb ⊢
      split
      · rename_i hw; rw [if_pos hw] at hd; exact absurd rfl hd
      · rename_i hw
        rw [sb (by simpa using hw)]
        exact ⟨rfl, by simp, .inl rfl⟩
    | sh t =>
      rw [hb] at sb
      simp only at sb
      rw [sb]
      exact ⟨rfl, by simp, .inl rfl⟩
    | it s p => rw [hb] at hd; exact absurd rfl hd
    | de => exact absurd hb h0d
  obtain ⟨k1, k2, k3⟩ := key
  refine ⟨hu, k1, ?_, k2, k3⟩
  rcases hx with hx | ⟨_, hx⟩
  · exfalso
    have hx : shp (h b) = none := hx
    revert hx k2
    cases h b <;> simp [shp]
  · exact hx
theorem toShM {W : List Nat} {h0 : List Blk} {U0 : Nat → Prop} {ι0 : Nat → Option (Nat × Nat × Nat)} (un0 : ∀ b, ¬ U0 b → H h0 b = .de) (ex : Ext ⟨U0, H h0, ι0⟩ ⟨U, h, ι⟩) (sm : Sm W h0 h) (L : Rel F w0 N ⟨U, h, ι⟩ T a w) : Rel F w0 N (shM W h0 ι0) T a w := by
  have hx : Ext ⟨U, h, ι⟩ (shM W h0 ι0) := fun b hb => ⟨trivial, by
    by_cases hd : hB W h0 b = .de
    · left; show shp (hB W h0 b) = none; rw [hd]; rfl
    · obtain ⟨_, h2, h3, _⟩ := hb_cur un0 ex sm hd
      exact .inr ⟨h2, h3.symm⟩⟩
  have hm : ∀ b, mutb (hB W h0 b) = true → mutb (h b) = true ∧ ι b = ι0 b := fun b hb => by
    have hd : hB W h0 b ≠ .de := fun e => by rw [e] at hb; cases hb
    obtain ⟨_, _, h3, _, h5⟩ := hb_cur un0 ex sm hd
    refine ⟨?_, h3⟩
    rcases h5 with h5 | ⟨t, h5, _⟩
    · rw [← h5]; exact hb
    · rw [h5] at hb; cases hb
  refine ⟨L.size, fun i => DR.ext hx _ _ (L.tm i), fun b => ?_, fun b hb => absurd trivial hb, ?_, fun b g oo c h1 h2 => ?_, L.fr, L.df⟩
  · by_cases hd : hB W h0 b = .de
    · unfold BR; rw [show (shM W h0 ι0).h b = .de from hd]; trivial
    · obtain ⟨_, h2, h3, h4, h5⟩ := hb_cur un0 ex sm hd
      rcases h5 with h5 | ⟨t, h5, h6⟩
      · exact BR.same (L.bl b) h5 h3.symm hx fun _ _ _ _ _ => rfl
      · unfold BR
        rw [show (shM W h0 ι0).h b = .sh t from h5]
        show ∃ g c, ι0 b = some (g, 0, c) ∧ g < w.heap.size
        rw [← h3]
        have hb := L.bl b
        unfold BR at hb
        rcases h6 with h6 | ⟨y, qs, h6⟩
        · rw [show (Wd.mk U h ι).h b = .sh t from h6] at hb; exact hb
        · rw [show (Wd.mk U h ι).h b = .o t y qs from h6] at hb
          obtain ⟨g, c, C, ty, q1, q2, _⟩ := hb
          exact ⟨g, c, q1, (Array.getElem?_eq_some_iff.1 q2).1⟩
  · intro b b' g oo c g' oo' c' hne h1 h2 h3 h4
    obtain ⟨m1, m2⟩ := hm b h1
    obtain ⟨_, _, n3, n4, _⟩ := hb_cur un0 ex sm h2
    exact L.sp b b' g oo c g' oo' c' hne m1 n4 (by show ι b = _; rw [m2]; exact h3) (by show ι b' = _; rw [n3]; exact h4)
  · obtain ⟨m1, m2⟩ := hm b h1
    exact L.ft b g oo c m1 (by show ι b = _; rw [m2]; exact h2)
section rev
theorem RR.rev (hv : ∀ b, live (M.h b) = true → M'.U b ∧ shp (M.h b) = shp (M'.h b) ∧ M'.ι b = M.ι b) {r : Ref} {v : Value} (hd : detR M.h r = true) (h : RR M r v) : RR M' r v := by
  cases r with
  | p b =>
    obtain ⟨h1, h2, h3⟩ := hv b hd
    exact ⟨h1, fun hs => by rw [h3]; exact h.2 (by rw [h2]; exact hs)⟩
  | w b =>
    obtain ⟨h1, h2, h3⟩ := hv b hd
    exact ⟨h1, fun k t n hs => by rw [h3]; exact h.2 k t n (by rw [h2]; exact hs)⟩
  | m b => exact h.elim
  | np => exact h
  | ns => exact h
  | nm => exact h
theorem all2_rev (hv : ∀ b, live (M.h b) = true → M'.U b ∧ shp (M.h b) = shp (M'.h b) ∧ M'.ι b = M.ι b) : ∀ (l : List CS) (m : List Value), (∀ r, CS.r r ∈ l → detR M.h r = true) → All2 (CR M) l m → All2 (CR M') l m
  | [], [], _, _ => trivial
  | c :: l, v :: m, hd, h => ⟨by
    have h1 := h.1
    cases c with
    | v x => exact h1
    | r r => exact ⟨RR.rev hv (hd r (by simp)) h1.1, h1.2⟩, all2_rev hv l m (fun r hr => hd r (by simp [hr])) h.2⟩
  | [], _ :: _, _, h => h.elim
  | _ :: _, [], _, h => h.elim
mutual
theorem DR.rev (hv : ∀ b, live (M.h b) = true → M'.U b ∧ shp (M.h b) = shp (M'.h b) ∧ M'.ι b = M.ι b) : ∀ (d : Go.AM.D) (v : Value), det M.h d = true → DR M d v → DR M' d v
  | .no, _, _, _ => trivial
  | .sl _ _ _, _, h, _ => by simp [det] at h
  | .v t x rs, v, hd, h => by
    simp only [det, List.all_eq_true] at hd
    exact ⟨h.1, h.2.1, h.2.2.1, all2_rev hv _ _ (fun r hr => by
      rcases cs_refs t x rs r hr with h3 | h3
      · exact hd r h3
      · subst h3; rfl) h.2.2.2⟩
  | .tup l, v, hd, h => by
    simp only [det] at hd
    obtain ⟨vs, rfl, h⟩ := h
    exact ⟨vs, rfl, DRL.rev hv l _ hd h⟩
  | .fc t d, v, hd, h => by
    simp only [det] at hd
    obtain ⟨u, rfl, h⟩ := h
    exact ⟨u, rfl, DR.rev hv d u hd h⟩
  | .nf, _, _, h => h
  | .ip b q, v, hd, h => by
    simp only [det] at hd
    obtain ⟨h1, h2, h3⟩ := hv b hd
    exact ⟨h1, fun k t m hs => by rw [h3]; exact h.2 k t m (by rw [h2]; exact hs)⟩
  | .clo f c, v, hd, h => by
    simp only [det] at hd
    obtain ⟨vs, rfl, h⟩ := h
    exact ⟨vs, rfl, DRL.rev hv c _ hd h⟩
  | .it b, v, hd, h => by
    simp only [det] at hd
    obtain ⟨h1, h2, h3⟩ := hv b hd
    exact ⟨h1, fun hs => by rw [h3]; exact h.2 (by rw [h2]; exact hs)⟩
theorem DRL.rev (hv : ∀ b, live (M.h b) = true → M'.U b ∧ shp (M.h b) = shp (M'.h b) ∧ M'.ι b = M.ι b) : ∀ (l : List Go.AM.D) (m : List Value), detL M.h l = true → DRL M l m → DRL M' l m
  | [], [], _, _ => trivial
  | d :: l, v :: m, hd, h => by
    simp only [detL, Bool.and_eq_true] at hd
    exact ⟨DR.rev hv d v hd.1 h.1, DRL.rev hv l m hd.2 h.2⟩
  | [], _ :: _, _, h => h.elim
  | _ :: _, [], _, h => h.elim
end
end rev
theorem guardR_ok {st : St} {take skip : St → Option R} {r : R} (hr : guardR ops o st take skip = some r) (hd : ∀ i, DR M (tf st.t i) (a.tmps.getD i undef)) :
    ∃ st', tf st'.t = tf st.t ∧ st'.t.length = st.t.length ∧ st'.h = st.h ∧ ((Region.wanted o (yielded ops a.tmps) = true ∧ take st' = some r) ∨ (Region.wanted o (yielded ops a.tmps) = false ∧ skip st' = some r)) := by
  unfold guardR at hr
  cases hg : o.guard with
  | none =>
    rw [hg] at hr
    exact ⟨st, rfl, rfl, rfl, .inl ⟨by unfold Region.wanted; rw [hg], hr⟩⟩
  | some p =>
    obtain ⟨j, want⟩ := p
    rw [hg] at hr
    simp only at hr
    cases ht : (ops[j]?).bind (·.dst) with
    | none => rw [ht] at hr; cases hr
    | some t =>
      rw [ht] at hr
      simp only at hr
      have hwd : Region.wanted o (yielded ops a.tmps) = (yielded ops a.tmps j == some want) := by unfold Region.wanted; rw [hg]
      have hd := hd t
      split at hr
      · rename_i htd
        have hv : a.tmps.getD t undef = .tuple #[] := by
          rw [show tf st.t t = .tup [] from htd] at hd
          obtain ⟨vs, hv, hl⟩ := hd
          rw [hv]
          congr 1
          apply Array.toList_inj.1
          cases hvl : vs.toList with
          | nil => rfl
          | cons x l => rw [hvl] at hl; exact hl.elim
        exact ⟨st, rfl, rfl, rfl, .inr ⟨by rw [hwd, yielded_of ht, hv]; rfl, hr⟩⟩
      · rename_i c htd
        have hv : a.tmps.getD t undef = .bool c := by
          rw [show tf st.t t = .v .b c [] from htd] at hd
          exact (dr_b hd).1
        have hy : yielded ops a.tmps j = some c := by rw [yielded_of ht, hv]
        obtain ⟨s1, s2⟩ := set_same (t := st.t) (i := t) (d := .v .b c []) htd (by simp)
        refine ⟨st.set t c, s1, s2, rfl, ?_⟩
        cases c <;> cases want <;> simp only [Br, cond_true, cond_false] at hr <;> first
          | exact .inl ⟨by rw [hwd, hy]; rfl, hr⟩
          | exact .inr ⟨by rw [hwd, hy]; rfl, hr⟩
      · cases hr
theorem fstF_ok {l : Array Bool} : ∀ (r : List Nat) {i : Nat} {o : Oper}, fstF ops l r = some (i, o) → i ∈ r ∧ ops[i]? = some o ∧ flt o = true ∧ Region.free .any ops l i = true
  | [], i, o, h => by cases h
  | k :: r, i, o, h => by
    have ih := fstF_ok (l := l) r (i := i) (o := o)
    unfold fstF at h
    split at h
    · rename_i o' ho
      cases hc : flt o' && Region.free .any ops l k with
      | true =>
        rw [hc] at h
        cases h
        simp only [Bool.and_eq_true] at hc
        exact ⟨by simp, ho, hc⟩
      | false => rw [hc] at h; exact ⟨List.mem_cons_of_mem _ (ih h).1, (ih h).2⟩
    · exact ⟨List.mem_cons_of_mem _ (ih h).1, (ih h).2⟩
theorem runAny_ok (K0 : TOk P E) (C : EOk P K Gl E) (S : Sd K Gl F w0) {k : St → Nat → Option R} {r : R} {W : List Nat} {h0 : List Blk} {U0 : Nat → Prop} {ι0 : Nat → Option (Nat × Nat × Nat)} (hsel : Region.noSelect ops = true) (un0 : ∀ b, ¬ U0 b → H h0 b = .de)
    (hk : ∀ st nx a w, k st nx = some r → Sta F w0 N m Z st nx a w → Q .normal a w) : ∀ (f : Nat) (l : Array Bool) (nx : Nat) (st : St) (a : Act) (w : World), runAny E ops W h0 f l nx st k = some r →
    st.t.length = N → (∃ U ι, Rel F w0 N ⟨U, H st.h, ι⟩ (tf st.t) a w ∧ (∀ j, nx ≤ j → ¬ U j) ∧ Kp m Z ⟨U, H st.h, ι⟩ ∧ Ext ⟨U0, H h0, ι0⟩ ⟨U, H st.h, ι⟩ ∧ Sm W h0 (H st.h)) → wA P ops (Cl F w0 (shM W h0 ι0)) Q f l a w := by
  intro f
  induction f with
  | zero =>
    intro l nx st a w hr hN ⟨U, ι, L, hf, hkp, ex, sm⟩
    unfold runAny at hr
    split at hr
    · rename_i he; exact ⟨he, hk st nx a w hr ⟨hN, U, ι, L, hf, hkp⟩⟩
    · cases hr
  | succ f ih =>
    intro l nx st a w hr hN ⟨U, ι, L, hf, hkp, ex, sm⟩
    unfold runAny at hr
    split at hr
    · rename_i he
      exact ⟨fun _ => hk st nx a w hr ⟨hN, U, ι, L, hf, hkp⟩, fun i hi => by rw [he] at hi; cases hi⟩
    · rename_i hne
      have LS := toShM un0 ex sm L
      have hcl : Cl F w0 (shM W h0 ι0) w := ⟨LS.bl, LS.fr⟩
      -- an operation that is not wanted, or leaves all as it is
      have next : ∀ {i : Nat} {st' : St} {dst : Option Tmp} {d : Go.AM.D} {v : Value}, tf st'.t = tf st.t → st'.t.length = st.t.length → st'.h = st.h → DR ⟨U, H st.h, ι⟩ d v → runAny E ops W h0 f (l.setIfInBounds i true) nx (st'.put dst d) k = some r →
          wA P ops (Cl F w0 (shM W h0 ι0)) Q f (l.setIfInBounds i true) (a.put dst v) w := by
        intro i st' dst d v e1 e2 e3 hd hr'
        obtain ⟨p1, p2, p3⟩ := tf_put st' dst d
        refine ih _ nx _ _ w hr' (by rw [p2, e2, hN]) ⟨U, ι, ?_, hf, ?_, ?_, ?_⟩
        · rw [p1, p3, e1, e2, e3, hN]; exact L.put dst hd
        · rw [p3, e3]; exact hkp
        · rw [p3, e3]; exact ex
        · rw [p3, e3]; exact sm
      split at hr
      · -- it floats
        rename_i i o hfs
        obtain ⟨hmem, hoi, hfl, hfree⟩ := fstF_ok _ hfs
        have hrdy : i ∈ Region.ready .any ops l := hmem
        obtain ⟨st', e1, e2, e3, hg⟩ := guardR_ok hr L.tm
        rcases hg with ⟨hw, hg⟩ | ⟨hw, hg⟩
        · obtain ⟨e, he, hg⟩ := G.bind_some _ _ _ hg
          cases hc : e.2.1.isEmpty && Nat.beq e.2.2 nx && (isMov o || det (hB W h0) e.1 || isSl o && slv (hB W h0) e.1) with
          | false => rw [hc] at hg; cases hg
          | true =>
            rw [hc] at hg
            have hg : runAny E ops W h0 f (l.setIfInBounds i true) nx (st'.put o.dst e.1) k = some r := hg
            simp only [Bool.and_eq_true, List.isEmpty_iff, Nat.beq_eq] at hc
            obtain ⟨⟨c1, c2⟩, c3⟩ := hc
            rw [e1] at he
            have main : ∃ v, DR ⟨U, H st.h, ι⟩ e.1 v ∧ ∀ w', Cl F w0 (shM W h0 ι0) w' → (execOp a.eval o).run P w' = .ok (.value v) w' := by
              cases hmv : isMov o with
              | true =>
                have : ∃ x, (o.op = .move x ∨ o.op = .assign x) := by
                  unfold isMov at hmv
                  cases ho : o.op <;> rw [ho] at hmv <;> first | exact ⟨_, .inl rfl⟩ | exact ⟨_, .inr rfl⟩ | (simp at hmv; done)
                obtain ⟨x, ho⟩ := this
                have e4 : e = (ev (tf st.t) x, [], nx) := by
                  rcases ho with ho | ho <;> (simp only [exo, ho] at he; exact he.symm)
                rw [e4]
                refine ⟨a.eval x, dr_ev L x, fun w' _ => ?_⟩
                rcases ho with ho | ho <;> simp [execOp, ho]
              | false =>
                rw [hmv] at c3
                have c3 : det (hB W h0) e.1 = true ∨ (isSl o = true ∧ slv (hB W h0) e.1 = true) := by simpa using c3
                have hd : ∀ w', Cl F w0 (shM W h0 ι0) w' → Did P (shM W h0 ι0) F w0 w' e.1 ((execOp a.eval o).run P w') := fun w' hw' => by
                  rcases okG_all (o := o) K0 C F w0 w' N (fun _ => True) (tf st.t) (hB W h0) ι0 a Q nx e S (LS.cl hw') he (fun j h1 h2 => by omega) with ⟨_, G⟩ | ⟨h1, _⟩
                  · exact G
                  · exact absurd c1 h1
                have hval : ∀ w', Cl F w0 (shM W h0 ι0) w' → ∃ u, (execOp a.eval o).run P w' = .ok (.value u) w' ∧ DR (shM W h0 ι0) e.1 u := fun w' hw' => by
                  have G := hd w' hw'
                  by_cases hnc : ∃ x, o.op = .nilCheck x
                  · obtain ⟨x, ho⟩ := hnc
                    simp only [exo, ho] at he
                    split at he
                    · rename_i p hp
                      obtain ⟨b, q⟩ := p
                      obtain rfl : (ev (tf st.t) x, [], nx) = e := he
                      have hx := dr_ev (LS.cl hw') x
                      obtain ⟨_, g, o', c, off, u, _, hv, _⟩ := dr_ptr (M := shM W h0 ι0) hx hp
                      exact ⟨_, by simp only [execOp, ho, hv]; rfl, hx⟩
                    · exact he.elim
                  · cases hq : (execOp a.eval o).run P w' with
                    | ok n w2 =>
                      obtain ⟨u, rfl⟩ := flt_value hfl (fun x hx => hnc ⟨x, hx⟩) hq
                      rw [hq] at G
                      obtain ⟨rfl, hu⟩ := G
                      exact ⟨u, rfl, hu⟩
                    | halt x w2 => rw [hq] at G; exact G.elim
                obtain ⟨v, hv1, hv2⟩ := hval w hcl
                have back : ∀ b, live (hB W h0 b) = true → U b ∧ shp (hB W h0 b) = shp (H st.h b) ∧ ι b = ι0 b := fun b hb => by
                  have hne : hB W h0 b ≠ .de := fun e => by rw [e] at hb; cases hb
                  obtain ⟨h1, h2, h3, _⟩ := hb_cur un0 ex sm hne
                  exact ⟨h1, h2, h3⟩
                rcases c3 with c3 | ⟨c3, c4⟩
                · refine ⟨v, DR.rev (M := shM W h0 ι0) (M' := ⟨U, H st.h, ι⟩) back _ _ c3 hv2, fun w' hw' => ?_⟩
                  obtain ⟨u, hu1, hu2⟩ := hval w' hw'
                  rw [hu1, DR.uniq (M := shM W h0 ι0) e.1 u v c3 hu2 hv2]
                · refine ⟨v, ?_, fun w' hw' => ?_⟩
                  · cases hd1 : e.1 with
                    | sl b off n =>
                      rw [hd1] at c4 hv2
                      obtain ⟨q1, q2, q3⟩ := back b c4
                      refine ⟨q1, fun k t m hs => ?_⟩
                      have := hv2.2 k t m (by rw [show shp ((shM W h0 ι0).h b) = shp (H st.h b) from q2]; exact hs)
                      unfold AtR at this ⊢
                      rw [show (Wd.mk U (H st.h) ι).ι b = ι0 b from q3]
                      exact this
                    | _ => rw [hd1] at c4; simp [slv] at c4
                  · have : ∃ t x lo hi, o.op = .slice t x lo hi none := by
                      unfold isSl at c3
                      split at c3
                      · rename_i ho; exact ⟨_, _, _, _, ho⟩
                      · cases c3
                    obtain ⟨t, x, lo, hi, ho⟩ := this
                    have hpu : Pu (execOp a.eval o) := by
                      simp only [execOp, ho]
                      exact pu_bind (pu_slice _ _ _ _) fun _ => pu_pure _
                    exact (hpu P w _ _ hv1).2 w'
            obtain ⟨v, hv, hrun⟩ := main
            exact wA_first hoi (Region.noSelect_spec hsel) f l a w hcl (Region.free_spec hoi hfree) hrdy (.inl ⟨hw, hrun⟩) (next e1 e2 e3 hv hg)
        · exact wA_first hoi (Region.noSelect_spec hsel) f l a w hcl (Region.free_spec hoi hfree) hrdy (.inr ⟨hw, rfl⟩) (next (d := .tup []) e1 e2 e3 ⟨#[], rfl, trivial⟩ hg)
      · -- the one that can come
        split at hr
        case h_2 => cases hr
        rename_i i hrr
        cases hoi : ops[i]? with
        | none => rw [hoi] at hr; cases hr
        | some o =>
          rw [hoi] at hr
          refine ⟨fun he => (by rw [hrr] at he; cases he), fun j hj => ?_⟩
          rw [hrr] at hj
          obtain rfl : j = i := by simpa using hj
          unfold wD
          rw [hoi]
          obtain ⟨st', e1, e2, e3, hg⟩ := guardR_ok hr L.tm
          rcases hg with ⟨hw, hg⟩ | ⟨hw, hg⟩
          · simp only [hw, if_true]
            obtain ⟨e, he, hg⟩ := G.bind_some _ _ _ hg
            cases hc : okE nx e && e.2.1.all (keepU W h0) with
            | false => rw [hc] at hg; cases hg
            | true =>
              rw [hc] at hg
              have hg : runAny E ops W h0 f (l.setIfInBounds j true) e.2.2 (st'.app o.dst e) k = some r := hg
              simp only [Bool.and_eq_true] at hc
              obtain ⟨hok, hku⟩ := hc
              simp only [okE, Bool.and_eq_true, List.all_eq_true, Nat.ble_eq, Nat.blt_eq] at hok
              rw [e1, e3] at he
              have G := okG_all (o := o) K0 C F w0 w N U (tf st.t) (H st.h) ι a QF nx e S L he (fun j h1 _ => hf j h1)
              have h2 : H (st'.app o.dst e).h = updH (H st.h) e.2.1 := by
                show H (e.2.1.foldl (fun h u => setH h u.1 u.2) st'.h) = _
                rw [H_fold, e3]
              refine Oper.wp_mono (fun a' w' ⟨ι', L', hx⟩ => ?_) (goes_wp G L)
              have ex' : Ext ⟨U0, H h0, ι0⟩ ⟨addU U e.2.1, updH (H st.h) e.2.1, ι'⟩ := fun b hb => by
                obtain ⟨q1, q2⟩ := ex b hb
                obtain ⟨p1, p2⟩ := hx b q1
                refine ⟨p1, ?_⟩
                rcases p2 with p2 | ⟨p2, p3⟩
                · exact .inl p2
                · rcases q2 with q2 | ⟨q2, q3⟩
                  · left; rw [p2]; exact q2
                  · exact .inr ⟨p2.trans q2, p3.trans q3⟩
              have sm' := sm_upd e.2.1 (H st.h) sm hku
              have LS' := toShM un0 ex' sm' L'
              refine ⟨⟨LS'.bl, LS'.fr⟩, ih _ e.2.2 _ a' w' hg ?_ ⟨addU U e.2.1, ι', ?_, fun j hj => ?_, ?_, ?_, ?_⟩⟩
              · show (st'.put o.dst e.1).t.length = N
                rw [(tf_put st' o.dst e.1).2.1, e2, hN]
              · have h1 : tf (st'.app o.dst e).t = putT N (tf st.t) o.dst e.1 := by rw [← e1, ← hN, ← e2]; exact (tf_put st' o.dst e.1).1
                rw [h1, h2]
                exact L'
              · rintro (hu | ⟨k, hk⟩)
                · exact hf j (Nat.le_trans hok.2 hj) hu
                · have := hok.1 _ hk
                  simp only at this
                  omega
              · rw [h2]; exact hkp.ext hx
              · rw [h2]; exact ex'
              · rw [h2]; exact sm'
          · simp only [hw, Bool.false_eq_true, if_false]
            exact next (d := .tup []) e1 e2 e3 ⟨#[], rfl, trivial⟩ hg
theorem region_any (K0 : TOk P E) (C : EOk P K Gl E) (S : Sd K Gl F w0) (hm : P.follows .mixedOrders = true) {id : Nat} {k : St → Nat → Option R} {r : R} {st : St} {W : List Nat} (hsel : Region.noSelect ops = true)
    (hk : ∀ st nx a w, k st nx = some r → Sta F w0 N m Z st nx a w → Q .normal a w) (hr : runAny E ops W st.h ops.size (Array.replicate ops.size false) nx st k = some r) (L : Sta F w0 N m Z st nx a w) : (Code.region id ops true).wp P Q a w := by
  obtain ⟨hN, U, ι, L, hf, hkp⟩ := L
  have hcl : Cl F w0 ⟨U, H st.h, ι⟩ { w with drawn := w.drawn + 1 } := ⟨fun b => br_drawn (L.bl b), fr_drawn L.fr⟩
  exact wp_region_any hm (wA_any _ _ _ _ (runAny_ok (U0 := U) (ι0 := ι) K0 C S hsel L.un hk ops.size _ nx st a _ hr hN ⟨U, ι, L.cl hcl, hf, hkp, Ext.refl _, sm_refl _ _⟩))
end
end Go.AM
end
/- What is kept of a state: temporaries and blocks, numbered anew. -/
section
set_option linter.constructorNameAsVariable false
set_option linter.unusedVariables false
set_option linter.unusedSimpArgs false
set_option linter.unnecessarySimpa false
namespace Go.AM
section
variable {P : Program} {K : Nat} {Gl : World → Prop} {F : Nat → Prop} {w0 w w' : World} {N : Nat} {U : Nat → Prop} {T : Nat → D} {h : Nat → Blk} {ι : Nat → Option (Nat × Nat × Nat)} {a : Act} {Q : Exit → Act → World → Prop} {E : Env} {o : Oper} {nx : Nat} {e : Eff} {M M' Z : Wd} {R : Type} {m : Nat} {st : St}
theorem reach_pre (h : Nat → Blk) : ∀ (n : Nat) (l acc : List Nat), ∃ x, reach h n l acc = acc.reverse ++ x
  | 0, l, acc => ⟨[], by unfold reach; simp⟩
  | n + 1, [], acc => ⟨[], by unfold reach; simp⟩
  | n + 1, b :: l, acc => by
    unfold reach
    split
    · exact reach_pre h n l acc
    · obtain ⟨x, hx⟩ := reach_pre h n ((h b).blk ++ l) (b :: acc)
      exact ⟨b :: x, by rw [hx]; simp⟩
theorem reachN_ok (h : Nat → Blk) (nb : Nat) (l : List Nat) : (reachN h nb l).Nodup ∧ ∀ b, b < nb → (reachN h nb l)[b]? = some b := by
  refine ⟨reach_nodup h _ _ _ (List.pairwise_reverse.2 (List.nodup_range.imp fun h => h.symm)), fun b hb => ?_⟩
  obtain ⟨x, hx⟩ := reach_pre h 64 ((List.range nb).flatMap (fun b => (h b).blk) ++ l) (List.range nb).reverse
  unfold reachN
  rw [hx, List.reverse_reverse, List.getElem?_append_left (by simpa using hb)]
  simp [hb]
/-- Where the kept blocks lie. -/
def iOs (os : List Nat) (ι : Nat → Option (Nat × Nat × Nat)) : Nat → Option (Nat × Nat × Nat) := fun j => (os[j]?).bind ι
structure Kept (F : Nat → Prop) (w0 w : World) (M : Wd) (os : List Nat) (bs : List Blk) : Prop where
  ren : Ren M (mIn bs (iOs os M.ι)) (idx os)
  bl : ∀ b, BR (mIn bs (iOs os M.ι)) w b
  sp : Sep (mIn bs (iOs os M.ι))
  ft : ∀ b g o c, mutb (H bs b) = true → iOs os M.ι b = some (g, o, c) → F g ∨ w0.heap.size ≤ g
  ev : ∀ i b, os[i]? = some b → shp (H bs i) = shp (M.h b) ∧ iOs os M.ι i = M.ι b ∧ i < bs.length
theorem H_out {bs : List Blk} {b : Nat} (hb : ¬ b < bs.length) : H bs b = .de := by
  unfold H
  rw [List.getD_eq_getElem?_getD, List.getElem?_eq_none (by omega)]; rfl
theorem kept (bl : ∀ b, BR M w b) (sp : Sep M) (ft : ∀ b g o c, mutb (M.h b) = true → M.ι b = some (g, o, c) → F g ∨ w0.heap.size ≤ g) {os : List Nat} {bs : List Blk} (hnd : os.Nodup) (hseq : sequence (os.map fun b => (M.h b).ren (idx os)) = some bs) : Kept F w0 w M os bs := by
  obtain ⟨hl, hg⟩ := seq_get hseq
  simp only [List.length_map] at hl
  have ev : ∀ i b, os[i]? = some b → ∃ k, (M.h b).ren (idx os) = some k ∧ H bs i = k ∧ iOs os M.ι i = M.ι b ∧ i < bs.length := by
    intro i b hb
    obtain ⟨k, h1, h2⟩ := hg i _ (by rw [List.getElem?_map, hb]; rfl)
    refine ⟨k, h1, ?_, ?_, (List.getElem?_eq_some_iff.1 h2).1⟩
    · unfold H; rw [List.getD_eq_getElem?_getD, h2]; rfl
    · unfold iOs; rw [hb]; rfl
  have hR : Ren M (mIn bs (iOs os M.ι)) (idx os) := by
    intro b b' hb hu
    obtain ⟨k, h1, h2, h3, h4⟩ := ev b' b (idx_some hb)
    exact ⟨h4, .inr ⟨by show shp (H bs b') = _; rw [h2]; exact (shp_ren h1).1, h3⟩⟩
  have has : ∀ j, H bs j ≠ .de → ∃ b, os[j]? = some b := by
    intro j hj
    by_cases hlt : j < bs.length
    · exact ⟨_, List.getElem?_eq_getElem (by omega)⟩
    · exact absurd (H_out hlt) hj
  have mb : ∀ j, mutb (H bs j) = true → H bs j ≠ .de := fun j hj e => by rw [e] at hj; cases hj
  refine ⟨hR, fun j => ?_, ?_, ?_, fun i b hb => ?_⟩
  · by_cases hj : H bs j = .de
    · unfold BR
      rw [show (mIn bs (iOs os M.ι)).h j = .de from hj]
      trivial
    · obtain ⟨b, hb⟩ := has j hj
      obtain ⟨k, h1, h2, h3, h4⟩ := ev j b hb
      exact BR.ren hR (bl b) h1 h2 h3
  · intro j j' g oo c g' oo' c' hne hm hd h1 h2
    obtain ⟨b, hb⟩ := has j (mb j hm)
    obtain ⟨b', hb'⟩ := has j' hd
    obtain ⟨k, q1, q2, q3, q4⟩ := ev j b hb
    obtain ⟨k', p1, p2, p3, p4⟩ := ev j' b' hb'
    have hm : mutb (H bs j) = true := hm
    have hd : H bs j' ≠ .de := hd
    have h1 : iOs os M.ι j = some (g, oo, c) := h1
    have h2 : iOs os M.ι j' = some (g', oo', c') := h2
    rw [q3] at h1
    rw [p3] at h2
    refine sp b b' g oo c g' oo' c' ?_ ?_ ?_ h1 h2
    · rintro rfl
      exact hne (nodup_get hnd hb hb')
    · rw [q2, (shp_ren q1).2] at hm; exact hm
    · intro e
      rw [e] at p1
      simp [Blk.ren] at p1
      exact hd (by rw [p2, ← p1])
  · intro j g oo c hm hi
    obtain ⟨b, hb⟩ := has j (mb j hm)
    obtain ⟨k, q1, q2, q3, q4⟩ := ev j b hb
    rw [q3] at hi
    rw [q2, (shp_ren q1).2] at hm
    exact ft b g oo c hm hi
  · obtain ⟨k, q1, q2, q3, q4⟩ := ev i b hb
    exact ⟨by rw [q2]; exact (shp_ren q1).1, q3, q4⟩
theorem place_len (N : Nat) : ∀ (l : List Nat) (ds : List D), (place N l ds).length = N
  | [], _ => by simp [place]
  | _ :: _, [] => by simp [place]
  | i :: l, d :: m => by simp [place, place_len N l m]
theorem tf_no (N i : Nat) : tf (List.replicate N .no) i = .no := by
  unfold tf
  rw [List.getD_eq_getElem?_getD, List.getElem?_replicate]
  split <;> rfl
theorem place_ok {g : Nat → Option Nat} {f : Nat → D} (e : Ren M M' g) (hT : ∀ i, DR M (f i) (a.tmps.getD i undef)) : ∀ (l : List Nat) (ds : List D), renL g (l.map f) = some ds → ∀ i, DR M' (tf (place N l ds) i) (a.tmps.getD i undef)
  | [], ds, h, i => by
    simp only [place]; rw [tf_no]; exact trivial
  | j :: l, ds, h, i => by
    simp only [List.map_cons, renL, Option.bind_eq_some_iff, Option.map_eq_some_iff] at h
    obtain ⟨d, hd, m, hm, rfl⟩ := h
    have ih := place_ok e hT l m hm i
    simp only [place]
    rw [tf_set]
    unfold putT
    split
    · rename_i hji
      simp only [Option.some.injEq] at hji
      rw [← hji.1]
      exact DR.ren e _ _ _ hd (hT j)
    · exact ih
theorem canon_ok {keep : List Nat} {nb : Nat} {x : List D × List Blk} (hc : canon keep nb st = some x) (hnb : m ≤ nb) (L : Sta F w0 N m Z st nx a w) : Sta F w0 N m Z ⟨place N keep x.1, x.2⟩ x.2.length a w := by
  obtain ⟨hN, U, ι, L, hf, hkp⟩ := L
  unfold canon at hc
  simp only at hc
  split at hc
  case h_2 => cases hc
  rename_i ds bs hds hbs
  cases hc
  generalize hos : reachN (H st.h) nb (blkL (keep.map fun i => st.t.getD i .no)) = os at *
  obtain ⟨hnd, hpre⟩ : os.Nodup ∧ ∀ b, b < nb → os[b]? = some b := by rw [← hos]; exact reachN_ok _ _ _
  have kp := kept (F := F) (w0 := w0) (w := w) (M := ⟨U, H st.h, ι⟩) L.bl L.sp L.ft hnd hbs
  refine ⟨place_len _ _ _, fun b => b < bs.length, iOs os ι, ⟨L.size, place_ok (f := fun i => st.t.getD i .no) kp.ren L.tm keep ds hds, kp.bl, fun b hb => H_out hb, kp.sp, kp.ft, L.fr, L.df⟩, fun j hj => by show ¬ j < bs.length; have hj : bs.length ≤ j := hj; omega, fun b hb => ?_⟩
  obtain ⟨h1, h2, h3⟩ := kp.ev b b (hpre b (by omega))
  refine ⟨h3, ?_⟩
  show shp (H bs b) = none ∨ (shp (H bs b) = _ ∧ iOs os ι b = _)
  rw [h1, h2]
  exact (hkp b hb).2
theorem SS.dec_st {s : SS} {x : List D × List Blk} {v : s.X} (h : s.dec x = some v) : s.st N v = ⟨place N s.keep x.1, x.2⟩ := by
  unfold SS.dec at h
  split at h
  case h_2 => cases h
  rename_i x1 h1
  split at h
  case h_2 => cases h
  rename_i y h2
  cases h
  have e1 := SD.dec_enc _ _ _ _ h1
  have e2 := SB.dec_enc _ _ _ _ h2
  rw [List.append_nil] at e1 e2
  unfold SS.st
  rw [← e1, ← e2]
theorem SS.at_ok {s : SS} {nb : Nat} {v : s.X} (h : s.at nb st = some v) (hnb : m ≤ nb) (L : Sta F w0 N m Z st nx a w) : Sta F w0 N m Z (s.st N v) (s.st N v).h.length a w := by
  unfold SS.at at h
  split at h
  case h_2 => cases h
  rename_i x hx
  rw [SS.dec_st (N := N) h]
  exact canon_ok hx hnb L
/-! ### Made alike -/
theorem Rel.retype (R : Rel F w0 N M T a w) (i : Nat) {d : D} (h : DR M d (a.tmps.getD i undef)) : Rel F w0 N M (putT N T (some i) d) a w := by
  refine ⟨R.size, fun j => ?_, R.bl, R.un, R.sp, R.ft, R.fr, R.df⟩
  unfold putT
  split
  · rename_i e
    simp only [Option.some.injEq] at e
    rw [← e.1]; exact h
  · exact R.tm j
theorem H_app (l : List Blk) (k : Blk) : H (l ++ [k]) = hNew (H l) l.length k none := by
  funext j
  unfold H hNew
  simp only [List.getD_eq_getElem?_getD]
  rw [if_neg (by simp)]
  by_cases h1 : j < l.length
  · rw [List.getElem?_append_left h1, if_neg (by omega)]
  · by_cases h2 : j = l.length
    · subst h2
      rw [List.getElem?_append_right (Nat.le_refl _), if_pos rfl]; simp
    · rw [if_neg h2, List.getElem?_eq_none (by simp; omega), List.getElem?_eq_none (by omega)]
theorem sta_retype {i : Nat} {d : D} (L : Sta F w0 N m Z st nx a w) (hd : ∀ U ι, Rel F w0 N ⟨U, H st.h, ι⟩ (tf st.t) a w → DR ⟨U, H st.h, ι⟩ d (a.tmps.getD i undef)) : Sta F w0 N m Z ⟨st.t.set i d, st.h⟩ nx a w := by
  obtain ⟨hN, U, ι, L, hf, hkp⟩ := L
  refine ⟨by simpa using hN, U, ι, ?_, hf, hkp⟩
  show Rel F w0 N _ (tf (st.t.set i d)) a w
  rw [tf_set, hN]
  exact L.retype i (hd U ι L)
theorem prom_row {i : Nat} {ee : TypeId} {t : Ty} {x : Unit} (h1 : t.nr = 0) (h2 : 0 < t.sz) (hi : st.t.getD i .no = .v (.r .s) x [.ns]) (L : Sta F w0 N m Z st st.h.length a w) : Sta F w0 N m Z ⟨st.t.set i (.v (.r .s) () [.w st.h.length]), st.h ++ [.w ee t [] true]⟩ (st.h ++ [Blk.w ee t [] true]).length a w := by
  obtain ⟨hN, U, ι, L, hf, hkp⟩ := L
  have hn : ¬ U st.h.length := hf _ (Nat.le_refl _)
  have hv : a.tmps.getD i undef = .slice none 0 0 := by
    have := L.tm i
    rw [show tf st.t i = .v (.r .s) x [.ns] from hi] at this
    obtain ⟨r, er, hr⟩ := dr_r this
    simp at er; subst er
    exact hr
  have R' := Rel.gen (w' := w) L hn (.w ee t [] true) none none (fun b hb => by cases hb) ⟨rfl, rfl, rfl, Nat.le_refl _, fun _ _ _ => rfl⟩ (fun g oo c hg => by cases hg) (by
    unfold BR
    simp only [hNew, if_neg (show ¬ (none : Option Nat) = some st.h.length by simp), if_pos rfl]
    refine ⟨h1, h2, fun y hy => by simp at hy, fun _ => ?_, fun h => by simp at h⟩
    simp only [iNew, if_pos rfl]
    exact World.ownsRow_nil w 0 ee t.sz)
  refine ⟨by simpa using hN, uNew U st.h.length, iNew ι st.h.length none, ?_, fun j hj => ?_, ?_⟩
  · show Rel F w0 N ⟨_, H (st.h ++ [Blk.w ee t [] true]), _⟩ (tf (st.t.set i _)) a w
    rw [tf_set, hN, H_app]
    refine R'.retype i ?_
    rw [hv]
    refine ⟨trivial, rfl, rfl, ⟨⟨.inr rfl, fun k t' n hk => ?_⟩, rfl⟩, trivial⟩
    simp only [hNew, if_neg (show ¬ (none : Option Nat) = some st.h.length by simp), if_pos rfl, shp, Option.some.injEq, Prod.mk.injEq] at hk
    obtain ⟨_, _, rfl⟩ := hk
    simp only [iNew, if_pos rfl]
    exact ⟨by first | rfl | trivial, rfl⟩
  · simp only [List.length_append, List.length_cons, List.length_nil] at hj
    rintro (h | h)
    · exact hf j (by omega) h
    · omega
  · show Kp m Z ⟨_, H (st.h ++ [Blk.w ee t [] true]), _⟩
    rw [H_app]
    exact hkp.ext (ext_new hn _ none none)
theorem prom_ok : ∀ (l : List PR) (st : St), Sta F w0 N m Z st st.h.length a w → Sta F w0 N m Z (prom l st) (prom l st).h.length a w
  | [], st, L => L
  | .row i ee t :: l, st, L => by
    unfold prom
    refine prom_ok l _ ?_
    split
    · rename_i x hi
      split
      · rename_i h; exact prom_row h.1 h.2 hi L
      · exact L
    · exact L
  | .view i :: l, st, L => by
    unfold prom
    refine prom_ok l _ ?_
    split
    · rename_i x b hi
      split
      · rename_i ee t l' own hb
        refine sta_retype L fun U ι R => ?_
        have hd := R.tm i
        rw [show tf st.t i = .v (.r .s) x [.w b] from hi] at hd
        obtain ⟨r, er, hr⟩ := dr_r hd
        simp at er; subst er
        refine ⟨hr.1, fun k t' n hk => ?_⟩
        have hr2 := hr.2 k t' n hk
        have hk2 : shp (H st.h b) = some (k, t', n) := hk
        rw [hb] at hk2
        simp only [shp, Option.some.injEq, Prod.mk.injEq] at hk2
        obtain ⟨rfl, rfl, rfl⟩ := hk2
        refine ⟨rfl, by simp, ?_⟩
        cases hi' : ι b with
        | none =>
          simp only [hi'] at hr2
          exact ⟨none, 0, by rw [hr2.1, hr2.2], by omega, .inl ⟨rfl, hr2.2, rfl⟩⟩
        | some p =>
          obtain ⟨g, o, c⟩ := p
          simp only [hi'] at hr2
          exact ⟨_, c, hr2.1, hr2.2, .inr ⟨g, o, c, o, hi', rfl, fun _ => by simp⟩⟩
      · exact L
    · rename_i b n hi
      refine sta_retype L fun U ι R => ?_
      have hd := R.tm i
      rw [show tf st.t i = .sl b none n from hi] at hd
      exact hd
    · exact L
/-! ### Ends -/
def enS (N : Nat) : (l : List ES) → XS ES.X l → Exit × St
  | [], x => x.elim | [e], x => (kex e.k, e.s.st N x) | e :: f :: l, x => match x with | .inl y => (kex e.k, e.s.st N y) | .inr y => enS N (f :: l) y
theorem encS_eq {k : Exit → St → Option R} : ∀ (l : List ES) (x : XS ES.X l), encS N l x k = k (enS N l x).1 (enS N l x).2
  | [], x => x.elim
  | [e], x => rfl
  | e :: f :: l, .inl y => rfl
  | e :: f :: l, .inr y => encS_eq (f :: l) y
theorem exk_kex {e : Exit} {k : Nat} (h : exk e = some k) : e = kex k := by
  cases e <;> simp [exk] at h <;> subst h <;> rfl
theorem decS_ok {nb : Nat} (hnb : m ≤ nb) {e : Exit} (L : Sta F w0 N m Z st nx a w) : ∀ (l : List ES) (y : XS ES.X l), decS nb l e st = some y → e = (enS N l y).1 ∧ Sta F w0 N m Z (enS N l y).2 (enS N l y).2.h.length a w
  | [], y, h => y.elim
  | [s], y, h => by
    unfold decS at h
    split at h
    · rename_i hk
      exact ⟨exk_kex hk, SS.at_ok h hnb L⟩
    · cases h
  | s :: t :: l, y, h => by
    unfold decS at h
    split at h
    · rename_i y' hy
      cases h
      split at hy
      · rename_i hk
        exact ⟨exk_kex hk, SS.at_ok hy hnb L⟩
      · cases hy
    · split at h
      · rename_i y' hy
        cases h
        exact decS_ok hnb L (t :: l) y' hy
      · cases h
end
end Go.AM
end
/- Code: what a walk of it shows. -/
section
set_option linter.constructorNameAsVariable false
set_option linter.unusedVariables false
set_option linter.unusedSimpArgs false
set_option linter.unnecessarySimpa false
namespace Go.AM
/-- The code that summaries stand for. -/
def obl (E : Env) : Code → List (Code × Cs)
  | .seq a b => obl E a ++ (match jn E b with | [] => obl E b | l => l.map fun s => (b, s))
  | .cond _ a b => obl E a ++ obl E b
  | .block id c => match E.lp id with | [] => obl E c | l => l.map fun s => (.block id c, s)
  | .scope c => obl E c
  | _ => []
/-- A summary holds. -/
def SO (P : Program) (K : Nat) (Gl : World → Prop) (N m : Nat) (c : Code) (s : Cs) : Prop :=
  m ≤ s.nb ∧ ∀ (F : Nat → Prop) (w0 : World) (Z : Wd), Sd K Gl F w0 → ∀ x y, s.f x = some y → ∀ a w, Sta F w0 N m Z (s.s.st N x) (s.s.st N x).h.length a w →
    c.wp P (fun e a' w' => e = (enS N s.x y).1 ∧ Sta F w0 N m Z (enS N s.x y).2 (enS N s.x y).2.h.length a' w') a w
section
variable {P : Program} {K : Nat} {Gl : World → Prop} {F : Nat → Prop} {w0 w w' : World} {N : Nat} {U : Nat → Prop} {T : Nat → D} {h : Nat → Blk} {ι : Nat → Option (Nat × Nat × Nat)} {a : Act} {Q : Exit → Act → World → Prop} {E : Env} {o : Oper} {nx : Nat} {e : Eff} {M M' Z : Wd} {R : Type} {m : Nat} {st : St}
theorem Sta.low (L : Sta F w0 N m Z st nx a w) (hn : nx ≤ st.h.length) : Sta F w0 N m Z st st.h.length a w := by
  obtain ⟨hN, U, ι, L, hf, hkp⟩ := L
  exact ⟨hN, U, ι, L, fun j hj => hf j (by omega), hkp⟩
theorem pickS_ok : ∀ (l : List Cs) (st : St) {s : Cs} {v : s.s.X}, pickS l st = some ⟨s, v⟩ → s ∈ l ∧ s.s.at s.nb (prom s.pr st) = some v
  | [], st, s, v, h => by cases h
  | k :: l, st, s, v, h => by
    unfold pickS at h
    split at h
    · rename_i v' hv; cases h; exact ⟨by simp, hv⟩
    · exact ⟨List.mem_cons_of_mem _ (pickS_ok l st h).1, (pickS_ok l st h).2⟩
theorem sum_ok (S : Sd K Gl F w0) {c : Code} {l : List Cs} (hs : ∀ s ∈ l, SO P K Gl N m c s) {k : Exit → St → Option R} {r : R}
    (hr : (match pickS l st with | some ⟨s, v⟩ => ob (s.f v) fun x => encS st.t.length s.x x k | none => none) = some r) (L : Sta F w0 N m Z st st.h.length a w)
    (hk : ∀ e st a w, k e st = some r → Sta F w0 N m Z st st.h.length a w → Q e a w) : c.wp P Q a w := by
  split at hr
  case h_2 => cases hr
  rename_i s v hp
  obtain ⟨hm, hv⟩ := pickS_ok l st hp
  have hs := hs s hm
  simp only [ob] at hr
  cases hy : s.f v with
  | none => rw [hy] at hr; cases hr
  | some y =>
    rw [hy] at hr
    simp only at hr
    rw [L.1, encS_eq] at hr
    refine wp_mono (hs.2 F w0 Z S v y hy a w (SS.at_ok hv hs.1 (prom_ok s.pr st L))) fun e a' w' ⟨h1, h2⟩ => ?_
    subst h1
    exact hk _ _ a' w' hr h2
theorem run_ok (K0 : TOk P E) (C : EOk P K Gl E) (S : Sd K Gl F w0) (hm : P.follows .mixedOrders = true) {r : R} : ∀ (c : Code) (k : Exit → St → Option R) (Q : Exit → Act → World → Prop) (st : St) (a : Act) (w : World), (∀ p ∈ obl E c, SO P K Gl N m p.1 p.2) →
    run E c st k = some r → Sta F w0 N m Z st st.h.length a w → (∀ e st a w, k e st = some r → Sta F w0 N m Z st st.h.length a w → Q e a w) → c.wp P Q a w := by
  intro c
  induction c with
  | skip => intro k Q st a w _ hr L hk; exact wp_skip (hk _ _ _ _ hr L)
  | region id ops d =>
    intro k Q st a w _ hr L hk
    have hk' : ∀ st nx a w, (bif low nx st then k .normal st else none) = some r → Sta F w0 N m Z st nx a w → Q .normal a w := fun st nx a w h L => by
      cases hl : low nx st with
      | false => rw [hl] at h; cases h
      | true => rw [hl] at h; exact hk _ _ _ _ h (L.low (by simpa [low] using hl))
    cases d with
    | false => exact wp_region_list (runOps_ok K0 C S hk' _ _ _ _ _ hr L)
    | true =>
      simp only [run] at hr
      cases hw : E.w id with
      | none => rw [hw] at hr; exact region_draw K0 C S hm hk' hr L
      | some W =>
        rw [hw] at hr
        simp only at hr
        cases hs : Region.noSelect ops with
        | false => rw [hs] at hr; cases hr
        | true => rw [hs] at hr; exact region_any K0 C S hm hs hk' hr L
  | seq x y ihx ihy =>
    intro k Q st a w ho hr L hk
    simp only [obl] at ho
    refine wp_seq (ihx _ _ st a w (fun p hp => ho p (List.mem_append_left _ hp)) hr L fun e st a w he L => ?_)
    cases e with
    | normal =>
      show y.wp P Q a w
      simp only at he
      cases hj : jn E y with
      | nil =>
        rw [hj] at he ho
        exact ihy k Q st a w (fun p hp => ho p (List.mem_append_right _ hp)) he L hk
      | cons s0 l =>
        rw [hj] at he ho
        exact sum_ok (l := s0 :: l) S (fun s hs => ho (y, s) (List.mem_append_right _ (List.mem_map.2 ⟨s, hs, rfl⟩))) he L hk
    | _ => exact hk _ _ _ _ he L
  | cond c x y ihx ihy =>
    intro k Q st a w ho hr L hk
    simp only [obl] at ho
    simp only [run] at hr
    split at hr
    case h_2 => cases hr
    rename_i b rs hc
    have hd : ∃ M, DR M (ev (tf st.t) c) (a.eval c) := by
      obtain ⟨_, U, ι, L, _⟩ := L
      exact ⟨_, dr_ev L c⟩
    obtain ⟨M, hd⟩ := hd
    rw [hc] at hd
    have hv := (dr_b hd).1
    cases b with
    | true =>
      simp only [Br, cond_true] at hr
      exact wp_cond_true hv (ihx k Q st a w (fun p hp => ho p (List.mem_append_left _ hp)) hr L hk)
    | false =>
      simp only [Br, cond_false] at hr
      exact wp_cond_false hv (ihy k Q st a w (fun p hp => ho p (List.mem_append_right _ hp)) hr L hk)
  | block id c ih =>
    intro k Q st a w ho hr L hk
    simp only [obl] at ho
    simp only [run] at hr
    cases hl : E.lp id with
    | cons s0 l =>
      rw [hl] at hr ho
      exact sum_ok (l := s0 :: l) S (fun s hs => ho (_, s) (List.mem_map.2 ⟨s, hs, rfl⟩)) hr L hk
    | nil =>
      rw [hl] at hr ho
      refine wp_block (ih _ _ st a w ho hr L fun e st a w he L => ?_)
      cases e with
      | exit i =>
        show if i = id then Q .normal a w else Q (.exit i) a w
        simp only at he
        split
        · rename_i hi; rw [if_pos hi] at he; exact hk _ _ _ _ he L
        · rename_i hi; rw [if_neg hi] at he; exact hk _ _ _ _ he L
      | _ => exact hk _ _ _ _ he L
  | exit i => intro k Q st a w _ hr L hk; exact wp_exit (hk _ _ _ _ hr L)
  | ret => intro k Q st a w _ hr L hk; exact wp_ret (hk _ _ _ _ hr L)
  | scope c ih =>
    intro k Q st a w ho hr L hk
    refine wp_scope_straight (ih _ _ st a w ho hr L fun e st a w he L => ?_)
    cases e with
    | goto l => cases he
    | _ => exact hk _ _ _ _ he L
  | _ => intro k Q st a w _ hr L hk; simp [run] at hr
/-- A loop: its rounds, by the number that is left. -/
theorem loop_rounds (K0 : TOk P E) (C : EOk P K Gl E) (S : Sd K Gl F w0) (hm : P.follows .mixedOrders = true) {id : Nat} {c : Code} {s : Cs} {g : Nat → s.s.X → Option (XS ES.X s.x)} (hnb : m ≤ s.nb) (h0 : ∀ v, g 0 v = none)
    (ho : ∀ p ∈ obl E c, SO P K Gl N m p.1 p.2) (hg : ∀ n v, run E c (s.s.st N v) (kloop id s (g n)) = g (n + 1) v) : ∀ (n : Nat) (x : s.s.X) (y : XS ES.X s.x), g n x = some y → ∀ a w, Sta F w0 N m Z (s.s.st N x) (s.s.st N x).h.length a w →
    Code.rounds P c (Exit.inBlock id fun e a' w' => e = (enS N s.x y).1 ∧ Sta F w0 N m Z (enS N s.x y).2 (enS N s.x y).2.h.length a' w') n a w
  | 0, x, y, h, a, w, L => by rw [h0] at h; cases h
  | n + 1, x, y, h, a, w, L => by
    rw [← hg] at h
    refine run_ok K0 C S hm c _ _ _ a w ho h L fun e st a w he L => ?_
    cases e with
    | normal =>
      show Code.rounds P c _ n a w
      simp only [kloop] at he
      split at he
      case h_2 => cases he
      rename_i v hv
      exact loop_rounds K0 C S hm hnb h0 ho hg n v y he a w (SS.at_ok hv hnb (prom_ok s.pr st L))
    | exit i =>
      simp only [kloop] at he
      obtain ⟨h1, h2⟩ := decS_ok hnb L _ _ he
      show if i = id then _ else _
      split
      · rename_i hi; rw [if_pos hi] at h1; exact ⟨h1, h2⟩
      · rename_i hi; rw [if_neg hi] at h1; exact ⟨h1, h2⟩
    | _ => simp only [kloop] at he; exact decS_ok hnb L _ _ he
theorem so_loop (K0 : TOk P E) (C : EOk P K Gl E) (hm : P.follows .mixedOrders = true) {id : Nat} {c : Code} {s : Cs} {g : Nat → s.s.X → Option (XS ES.X s.x)} {n : Nat} (hnb : m ≤ s.nb) (h0 : ∀ v, g 0 v = none)
    (ho : ∀ p ∈ obl E c, SO P K Gl N m p.1 p.2) (hg : ∀ n v, run E c (s.s.st N v) (kloop id s (g n)) = g (n + 1) v) (hf : ∀ x, s.f x = g n x) : SO P K Gl N m (.block id (.loop c)) s :=
  ⟨hnb, fun F w0 Z S x y hy a w L => wp_block (wp_loop_rounds n (loop_rounds K0 C S hm hnb h0 ho hg n x y (by rw [← hf]; exact hy) a w L))⟩
/-- The code from a place on. -/
theorem so_join (K0 : TOk P E) (C : EOk P K Gl E) (hm : P.follows .mixedOrders = true) {c : Code} {s : Cs} (hnb : m ≤ s.nb) (ho : ∀ p ∈ obl E c, SO P K Gl N m p.1 p.2) (hg : ∀ v, run E c (s.s.st N v) (decS s.nb s.x) = s.f v) : SO P K Gl N m c s :=
  ⟨hnb, fun F w0 Z S x y hy a w L => run_ok K0 C S hm c _ _ _ a w ho (by rw [hg]; exact hy) L fun e st a w he L => decS_ok hnb L _ _ he⟩
end
end Go.AM
end
/- Functions: a certificate tells what a function does. -/
section
set_option linter.constructorNameAsVariable false
set_option linter.unusedVariables false
set_option linter.unusedSimpArgs false
set_option linter.unnecessarySimpa false
namespace Go.AM
section
variable {P : Program} {K : Nat} {Gl : World → Prop} {F : Nat → Prop} {w0 w w' : World} {N : Nat} {U : Nat → Prop} {T : Nat → D} {h : Nat → Blk} {ι : Nat → Option (Nat × Nat × Nat)} {a : Act} {Q : Exit → Act → World → Prop} {E : Env} {o : Oper} {nx : Nat} {e : Eff} {M M' Z : Wd} {R : Type} {m : Nat} {st : St}
theorem SD.enc_n : ∀ (s : SD) (x : s.X), (s.enc x).length = s.n := by
  intro s
  induction s with
  | c a b iha ihb => intro x; simp [SD.enc, SD.n, iha, ihb]
  | e => intro x; rfl
  | fc i s ih => 
    intro x
    have := ih x
    simp only [SD.enc, SD.n]
    rw [← this]
    match s.enc x with
    | [] => rfl
    | [_] => rfl
    | _ :: _ :: _ => rfl
  | _ => intro x; simp [SD.enc, SD.n]
theorem SB.enc_n : ∀ (s : SB) (x : s.X), (s.enc x).length = s.n := by
  intro s
  induction s with
  | c a b iha ihb => intro x; simp [SB.enc, SB.n, iha, ihb]
  | _ => intro x; simp [SB.enc, SB.n]
theorem SB.enc_own : ∀ (s : SB) (x : s.X), s.own = true → ∀ k ∈ s.enc x, mutb k = true ∨ k = .de := by
  intro s
  induction s with
  | c a b iha ihb =>
    intro x h k hk
    simp only [SB.own, Bool.and_eq_true] at h
    simp only [SB.enc, List.mem_append] at hk
    rcases hk with hk | hk
    · exact iha _ h.1 k hk
    · exact ihb _ h.2 k hk
  | e => intro x h k hk; simp [SB.enc] at hk
  | w i ty z => intro x h k hk; simp [SB.enc] at hk; subst hk; simp only [SB.own] at h; subst h; exact .inl rfl
  | de => intro x h k hk; simp [SB.enc] at hk; subst hk; exact .inr rfl
  | _ => intro x h k hk; simp [SB.enc] at hk; subst hk; exact .inl rfl
theorem encR_mem : ∀ (l : List RS) (y : XS RS.X l), ∃ s ∈ l, ∃ z : s.X, encR l y = s.enc z
  | [], y => y.elim
  | [s], y => ⟨s, by simp, y, rfl⟩
  | s :: t :: l, .inl y => ⟨s, by simp, y, rfl⟩
  | s :: t :: l, .inr y => by
    obtain ⟨s', h1, z, h2⟩ := encR_mem (t :: l) y
    exact ⟨s', by simp [h1], z, h2⟩
theorem RS.dec_enc {s : RS} {x : D × List Blk × List Blk} {y : s.X} (h : s.dec x = some y) : s.enc y = x := by
  unfold RS.dec at h
  split at h
  case h_2 => cases h
  rename_i x1 h1
  split at h
  case h_2 => cases h
  rename_i x2 h2
  split at h
  case h_2 => cases h
  rename_i x3 h3
  cases h
  have e1 := SD.dec_enc _ _ _ _ h1
  have e2 := SB.dec_enc _ _ _ _ h2
  have e3 := SB.dec_enc _ _ _ _ h3
  rw [List.append_nil] at e1 e2 e3
  obtain ⟨d, hs, ns⟩ := x
  simp only at e1 e2 e3
  unfold RS.enc
  simp only [← e1, ← e2, ← e3]
theorem decR_ok : ∀ (l : List RS) (x : D × List Blk × List Blk) (y : XS RS.X l), decR l x = some y → encR l y = x
  | [], x, y, h => y.elim
  | [s], x, y, h => RS.dec_enc h
  | s :: t :: l, x, y, h => by
    unfold decR at h
    split at h
    · rename_i y' hy
      cases h
      exact RS.dec_enc hy
    · split at h
      · rename_i y' hy
        cases h
        exact decR_ok (t :: l) x y' hy
      · cases h
/-- The results. -/
def resv (tmps : Array Value) : ResultVar → Sem Value
  | .tmp t => pure (tmps.getD t undef)
  | .cell a t => do loadVar t (← asAddr (tmps.getD a undef))
theorem res_ok (K0 : TOk P E) (L : Rel F w0 N ⟨U, H st.h, ι⟩ (tf st.t) a w) : ∀ (l : List ResultVar) (ds : List D), resD E (H st.h) st.t l = some ds → ∃ vs, (l.mapM (resv a.tmps)).run P w = .ok vs w ∧ DRL ⟨U, H st.h, ι⟩ ds vs
  | [], ds, h => by cases h; exact ⟨[], rfl, trivial⟩
  | .tmp i :: l, ds, h => by
    simp only [resD, Option.map_eq_some_iff] at h
    obtain ⟨ds, h, rfl⟩ := h
    obtain ⟨vs, h1, h2⟩ := res_ok K0 L l ds h
    refine ⟨a.tmps.getD i undef :: vs, ?_, L.tm i, h2⟩
    simp [resv, Sem.run_bind, h1]
  | .cell i ty :: l, ds, h => by
    simp only [resD] at h
    split at h
    case h_2 => cases h
    rename_i u y rs hd
    split at h
    case isFalse => cases h
    rename_i ht
    simp only [Option.map_eq_some_iff] at h
    obtain ⟨ds, h, rfl⟩ := h
    obtain ⟨vs, h1, h2⟩ := res_ok K0 L l ds h
    unfold loadD at hd
    split at hd
    case h_2 => cases hd
    rename_i b q hp
    obtain ⟨hU, g, o', c, off, u', hι, hv, hpb⟩ := dr_ptr (M := ⟨U, H st.h, ι⟩) (L.tm i) hp
    obtain ⟨I, hI, hty⟩ := Env.ty_some ht
    obtain ⟨y', rs', mid, e1, h3, h4, h5, h6⟩ := load_cells (M := ⟨U, H st.h, ι⟩) (L.bl b) hι hpb (d := .v u y rs) hd
    simp only [D.v.injEq] at e1
    obtain ⟨rfl, e2, rfl⟩ := e1
    cases e2
    subst hty
    have hag := (tok_base K0 hI).2.1
    have hl := h6.length
    rw [cs_len _ _ _ h3] at hl
    have hrun := run_load (P := P) (w := w) K0 hI h5 hl.symm
    refine ⟨mkT P ty mid :: vs, ?_, dr_mkT hag h6 h3 h4, h2⟩
    have : (resv a.tmps (.cell i ty)).run P w = .ok (mkT P ty mid) w := by
      simp only [resv, hv]
      simp only [Instr.loadAt, Instr.sureAddr, Sem.run_bind, Sem.run_pure, Result.andThen_ok] at hrun
      simp only [asAddr, Sem.run_bind, Sem.run_pure, Result.andThen_ok]
      exact hrun
    simp [Sem.run_bind, this, h1]
theorem results_ok (K0 : TOk P E) (L : Rel F w0 N ⟨U, H st.h, ι⟩ (tf st.t) a w) {fn : Func} {ds : List D} (h : resD E (H st.h) st.t fn.results.toList = some ds) : ∃ v, (results fn a.tmps).run P w = .ok v w ∧ DR ⟨U, H st.h, ι⟩ (oneD ds) v := by
  obtain ⟨vs, h1, h2⟩ := res_ok K0 L _ _ h
  have hr : (results fn a.tmps).run P w = .ok (if h : vs.toArray.size = 1 then vs.toArray[0] else .tuple vs.toArray) w := by
    have e : results fn a.tmps = (fn.results.mapM (resv a.tmps) >>= fun vs => pure (if h : vs.size = 1 then vs[0] else .tuple vs)) := rfl
    rw [e, Sem.run_bind, Array.mapM_eq_mapM_toList]
    simp only [Sem.run_map, h1, Result.andThen_ok, Sem.run_pure]
  refine ⟨_, hr, ?_⟩
  clear hr h h1
  unfold oneD
  split
  · rename_i d
    match vs, h2 with
    | [v], h2 => exact h2.1
  · rename_i ds hne
    rw [dif_neg]
    · exact ⟨vs.toArray, rfl, h2⟩
    · intro h1
      have hl : ∀ {l : List D} {m : List Value}, DRL ⟨U, H st.h, ι⟩ l m → l.length = m.length := by
        intro l
        induction l with
        | nil => intro m h; cases m with | nil => rfl | cons _ _ => exact h.elim
        | cons d l ih => intro m h; cases m with | nil => exact h.elim | cons v m => simp [ih h.2]
      have := hl h2
      have h1 : vs.length = 1 := h1
      rw [h1] at this
      obtain ⟨d, rfl⟩ := List.length_eq_one_iff.1 this
      exact hne d rfl
theorem drl_len : ∀ {l : List D} {m : List Value}, DRL M l m → l.length = m.length
  | [], [], _ => rfl
  | _ :: _, _ :: _, h => by simp [drl_len h.2]
  | [], _ :: _, h => h.elim
  | _ :: _, [], h => h.elim
/-- How a function begins. -/
theorem entry_ok {as : List D} {bs : List Blk} {vs : List Value} (hv : DRL (mIn bs ι) as vs) (hbl : ∀ b, BR (mIn bs ι) w b) (hsp : Sep (mIn bs ι)) (hn : as.length ≤ N) :
    Sta (foot (mIn bs ι)) w N bs.length (mIn bs ι) (entry N as bs) bs.length { tmps := vs.toArray ++ Array.replicate (N - vs.toArray.size) undef, defers := [] } w := by
  have hl := drl_len hv
  refine ⟨by simp [entry]; omega, fun b => b < bs.length, ι, ⟨?_, fun i => ?_, hbl, fun b hb => H_out hb, hsp, fun b g o c h1 h2 => .inl ⟨b, o, c, h1, h2⟩, ⟨rfl, rfl, rfl, Nat.le_refl _, fun _ _ _ => rfl⟩, rfl⟩, fun j hj => by show ¬ j < bs.length; omega, fun b hb => ⟨hb, .inr ⟨rfl, rfl⟩⟩⟩
  · simp; omega
  · unfold entry tf
    simp only [List.getD_eq_getElem?_getD, Array.getD_eq_getD_getElem?]
    by_cases hi : i < as.length
    · rw [List.getElem?_append_left hi, Array.getElem?_append_left (by simp; omega)]
      have h1 : as[i]? = some as[i] := List.getElem?_eq_getElem hi
      have hi2 : i < vs.length := by omega
      have h2 : vs[i]? = some vs[i] := List.getElem?_eq_getElem hi2
      rw [h1, List.getElem?_toArray, h2]
      obtain ⟨v, q1, q2⟩ := drl_get hv i _ h1
      rw [q1] at h2
      cases h2
      exact q2
    · rw [List.getElem?_append_right (by omega), List.getElem?_replicate]
      split <;> exact trivial
/-- A certificate, and what it says. -/
theorem fn_ok (K0 : TOk P E) (C : EOk P K Gl E) (hm : P.follows .mixedOrders = true) (hst : ∀ w w' : World, (∀ k, k < K → w'.heap[k]? = w.heap[k]?) → Gl w → Gl w') {f : FuncId} {fn : Func} {c : Code} (hf : P.funcs[f]? = some fn) (hname : (fn.name == "runtime.NumGoroutine") = false) (hb : fn.body = some c)
    {cf : Cf} (hfit : cf.fit fn.ntmps = true) (ho : ∀ p ∈ obl E c, SO P K Gl fn.ntmps cf.b.n p.1 p.2)
    (cert : ∀ x, run E c (entry fn.ntmps (cf.a.enc x.1) (cf.b.enc x.2)) (kfin E fn cf cf.b.n) = cf.f x) :
    ∀ x y, cf.f x = some y → Acts P K Gl f (cf.a.enc x.1) (cf.b.enc x.2) (encR cf.r y).1 (encR cf.r y).2.1 (encR cf.r y).2.2 := by
  intro x y hy
  simp only [Cf.fit, Bool.and_eq_true, List.all_eq_true, Nat.ble_eq] at hfit
  obtain ⟨s, hs, z, hz⟩ := encR_mem cf.r y
  have hs2 := hfit.2 s hs
  simp only [Nat.beq_eq] at hs2
  have hbn := SB.enc_n cf.b x.2
  refine ⟨?_, ?_, fun w ι vs hG hK hF hv hbl hsp => ?_⟩
  · rw [hz]
    show (s.hs.enc z.2.1).length = _
    rw [SB.enc_n, hbn]; exact hs2.1
  · rw [hz]
    exact SB.enc_own _ _ hs2.2
  · have h1 : fn.name ≠ "runtime.NumGoroutine" := by simpa using hname
    have hcall : (callFunc f vs.toArray).run P w = .ok (.enter f vs.toArray) w := by simp [callFunc, hf, h1, hb]
    rw [hcall]
    refine ⟨rfl, calls_of_wp hf hb ?_⟩
    have S : Sd K Gl (foot (mIn (cf.b.enc x.2) ι)) w := ⟨hst, hG, hK, hF⟩
    have L0 := entry_ok (N := fn.ntmps) hv hbl hsp (by rw [SD.enc_n]; exact hfit.1)
    rw [hbn] at L0
    have L0 : Sta (foot (mIn (cf.b.enc x.2) ι)) w fn.ntmps cf.b.n (mIn (cf.b.enc x.2) ι) (entry fn.ntmps (cf.a.enc x.1) (cf.b.enc x.2)) (entry fn.ntmps (cf.a.enc x.1) (cf.b.enc x.2)).h.length { tmps := vs.toArray ++ Array.replicate (fn.ntmps - vs.toArray.size) undef, defers := [] } w := by
      show Sta _ _ _ _ _ _ (cf.b.enc x.2).length _ _
      rw [hbn]; exact L0
    refine run_ok K0 C S hm c _ _ _ _ w ho ((cert x).trans hy) L0 fun e st a w2 he L => ?_
    obtain ⟨hN, U, ι2, L, hf2, hkp⟩ := L
    have key : (match finish E fn cf.b.n st with | some x => decR cf.r x | none => none) = some y → a.defers = [] ∧ ∃ v, (results fn a.tmps).run P w2 = .ok v w2 ∧ ∃ v', Ending.returned v = .returned v' ∧ ∃ ι', After (cf.b.enc x.2) ι w (encR cf.r y).1 (encR cf.r y).2.1 (encR cf.r y).2.2 v' ι' w2 := by
      intro he
      split at he
      case h_2 => cases he
      rename_i q hq
      rw [decR_ok _ _ _ he]
      unfold finish at hq
      split at hq
      case h_2 => cases hq
      rename_i ds hds
      obtain ⟨v, hv1, hv2⟩ := results_ok K0 L hds
      refine ⟨L.df, v, hv1, v, rfl, ?_⟩
      simp only at hq
      generalize oneD ds = r0 at hq hv2
      split at hq
      case h_2 => cases hq
      rename_i r bs hrr hbs
      cases hq
      generalize hos : reachN (H st.h) cf.b.n r0.blk = os at *
      obtain ⟨hnd, hpre⟩ : os.Nodup ∧ ∀ b, b < cf.b.n → os[b]? = some b := by rw [← hos]; exact reachN_ok _ _ _
      have kp := kept (F := foot (mIn (cf.b.enc x.2) ι)) (w0 := w) (w := w2) (M := ⟨U, H st.h, ι2⟩) L.bl L.sp L.ft hnd hbs
      have hap : bs.take cf.b.n ++ bs.drop cf.b.n = bs := List.take_append_drop _ _
      refine ⟨iOs os ι2, ?_, ?_, ?_, fun b hb => ?_, ?_, L.fr⟩
      · show DR (mIn (bs.take cf.b.n ++ bs.drop cf.b.n) _) r v
        rw [hap]; exact DR.ren kp.ren _ _ _ hrr hv2
      · show ∀ b, BR (mIn (bs.take cf.b.n ++ bs.drop cf.b.n) _) w2 b
        rw [hap]; exact kp.bl
      · show Sep (mIn (bs.take cf.b.n ++ bs.drop cf.b.n) _)
        rw [hap]; exact kp.sp
      · rw [hbn] at hb
        obtain ⟨h1, h2, h3⟩ := kp.ev b b (hpre b hb)
        have hH : H (bs.take cf.b.n) b = H bs b := by
          unfold H
          simp only [List.getD_eq_getElem?_getD]
          rw [List.getElem?_take_of_lt hb]
        show shp (H (bs.take cf.b.n) b) = none ∨ (shp (H (bs.take cf.b.n) b) = _ ∧ iOs os ι2 b = _)
        rw [hH, h1, h2]
        exact (hkp b hb).2
      · show ∀ b g oo c, mutb (H (bs.take cf.b.n ++ bs.drop cf.b.n) b) = true → _
        rw [hap]; exact kp.ft
    cases e with
    | normal => exact key he
    | ret => exact key he
    | _ => simp only [kfin] at he; cases he
end
end Go.AM
end
/- What is known of a program's functions, one after the other. -/
section
set_option linter.constructorNameAsVariable false
set_option linter.unusedVariables false
set_option linter.unusedSimpArgs false
namespace Go.AM
/-- A program, and what its variables hold. -/
structure Cx (P : Program) (K : Nat) (Gl : World → Prop) : Prop where
  hm : P.follows .mixedOrders = true
  hst : ∀ w w' : World, (∀ k, k < K → w'.heap[k]? = w.heap[k]?) → Gl w → Gl w'
def FOk (P : Program) (K : Nat) (Gl : World → Prop) (f : Nat) (c : Cf) : Prop := ∀ x y, c.f x = some y → Acts P K Gl f (c.a.enc x.1) (c.b.enc x.2) (encR c.r y).1 (encR c.r y).2.1 (encR c.r y).2.2
def FAll (P : Program) (K : Nat) (Gl : World → Prop) (l : List (Nat × Cf)) : Prop := ∀ p ∈ l, FOk P K Gl p.1 p.2
def SAll (P : Program) (K : Nat) (Gl : World → Prop) (N m : Nat) (l : List (Code × Cs)) : Prop := ∀ p ∈ l, SO P K Gl N m p.1 p.2
section
variable {P : Program} {K : Nat} {Gl : World → Prop} {N m : Nat} {E : Env}
theorem fnil : FAll P K Gl [] := fun _ h => by cases h
theorem fcons {f : Nat} {c : Cf} {l : List (Nat × Cf)} (h : FOk P K Gl f c) (hl : FAll P K Gl l) : FAll P K Gl ((f, c) :: l) := fun p hp => by
  rcases List.mem_cons.1 hp with rfl | hp
  · exact h
  · exact hl p hp
theorem snil : SAll P K Gl N m [] := fun _ h => by cases h
theorem scons {c : Code} {s : Cs} {l : List (Code × Cs)} (h : SO P K Gl N m c s) (hl : SAll P K Gl N m l) : SAll P K Gl N m ((c, s) :: l) := fun p hp => by
  rcases List.mem_cons.1 hp with rfl | hp
  · exact h
  · exact hl p hp
theorem lkA_mem {α : Type} : ∀ {l : List (Nat × α)} {f : Nat} {c : α}, c ∈ lkA l f → (f, c) ∈ l
  | [], f, c, h => by cases h
  | (i, x) :: l, f, c, h => by
    unfold lkA at h
    split at h
    · rename_i e
      subst e
      rcases List.mem_cons.1 h with rfl | h
      · exact List.mem_cons_self
      · exact List.mem_cons_of_mem _ (lkA_mem h)
    · exact List.mem_cons_of_mem _ (lkA_mem h)
theorem eok {l : List (Nat × Cf)} (h : FAll P K Gl l) (he : E.c = lkA l) : EOk P K Gl E := fun f c hc => by
  rw [he] at hc
  exact h _ (lkA_mem hc)
theorem lk_mem {α : Type} : ∀ {l : List (Nat × α)} {f : Nat} {c : α}, lk l f = some c → (f, c) ∈ l
  | [], f, c, h => by cases h
  | (i, x) :: l, f, c, h => by
    unfold lk at h
    split at h
    · rename_i e
      subst e
      cases h
      exact List.mem_cons_self
    · exact List.mem_cons_of_mem _ (lk_mem h)
theorem lkM_mem : ∀ {l : List (Nat × String × Nat)} {t : Nat} {s : String} {f : Nat}, lkM l t s = some f → (t, s, f) ∈ l
  | [], t, s, f, h => by cases h
  | (i, s', x) :: l, t, s, f, h => by
    unfold lkM at h
    split at h
    · rename_i e
      obtain ⟨rfl, rfl⟩ := e
      cases h
      exact List.mem_cons_self
    · exact List.mem_cons_of_mem _ (lkM_mem h)
theorem tok_of {l : List (Nat × TI)} {m : List Nat} (h1 : l.all (fun x => tiOk P x.1 x.2) = true) (h2 : m.all (fun t => match P.underlying t with | some (.interface _) => true | _ => false) = true) (e1 : E.ti = lk l) (e2 : E.itf = m.contains) {ms : List (Nat × String × Nat)} (h3 : ms.all (fun x => methOk P x.1 x.2.1 x.2.2) = true) (e3 : E.m = lkM ms) : TOk P E :=
  { ti := fun t I h => by rw [e1] at h; exact List.all_eq_true.1 h1 _ (lk_mem h)
    itf := fun t h => by
      rw [e2] at h
      have := List.all_eq_true.1 h2 t (by simpa using h)
      split at this
      · rename_i ms hm; exact ⟨ms, hm⟩
      · cases this
    me := fun t s f h => by
      rw [e3] at h
      exact List.all_eq_true.1 h3 _ (lkM_mem h) }
theorem join_ok (X : Cx P K Gl) {cs : List (Nat × Cf)} {os : List (Code × Cs)} {c : Code} {s : Cs} (T : TOk P E) (he : E.c = lkA cs) (C : FAll P K Gl cs) (O : SAll P K Gl N m os) (ho : obl E c = os) (hnb : s.nb = m)
    (hg : ∀ v, run E c (s.s.st N v) (decS s.nb s.x) = s.f v) : SO P K Gl N m c s := by
  subst ho; subst hnb
  exact so_join T (eok C he) X.hm (Nat.le_refl _) O hg
theorem loop_ok (X : Cx P K Gl) {cs : List (Nat × Cf)} {os : List (Code × Cs)} {c : Code} {s : Cs} (T : TOk P E) (he : E.c = lkA cs) (C : FAll P K Gl cs) (O : SAll P K Gl N m os) (ho : obl E c = os) (hnb : s.nb = m)
    {id : Nat} {n : Nat} (g : Nat → s.s.X → Option (XS ES.X s.x)) (h0 : ∀ v, g 0 v = none) (hg : ∀ n v, run E c (s.s.st N v) (kloop id s (g n)) = g (n + 1) v) (hf : ∀ x, s.f x = g n x) : SO P K Gl N m (.block id (.loop c)) s := by
  subst ho; subst hnb
  exact so_loop T (eok C he) X.hm (Nat.le_refl _) h0 O hg hf
theorem func_ok (X : Cx P K Gl) {cs : List (Nat × Cf)} {os : List (Code × Cs)} {f : Nat} {fn : Func} (T : TOk P E) (he : E.c = lkA cs) (C : FAll P K Gl cs) {cf : Cf} (O : SAll P K Gl fn.ntmps cf.b.n os) (ho : obl E (bodyOf fn) = os)
    (hf : P.funcs[f]? = some fn) (hk : (fn.body.isSome && !(fn.name == "runtime.NumGoroutine") && cf.fit fn.ntmps) = true)
    (cert : ∀ x, run E (bodyOf fn) (entry fn.ntmps (cf.a.enc x.1) (cf.b.enc x.2)) (kfin E fn cf cf.b.n) = cf.f x) : FOk P K Gl f cf := by
  simp only [Bool.and_eq_true, Bool.not_eq_true'] at hk
  subst ho
  have hb : fn.body = some (bodyOf fn) := by
    cases hb : fn.body with
    | none => rw [hb] at hk; simp at hk
    | some c => simp [bodyOf, hb]
  exact fn_ok T (eok C he) X.hm X.hst hf hk.1.2 hb hk.2 O cert
/-- A function that calls itself: by the number of rounds that are left. -/
theorem rec_ok {f : Nat} {c : Cf} {d : Nat → Cf} {n : Nat} (h0 : FOk P K Gl f (d 0)) (hs : ∀ m, FOk P K Gl f (d m) → FOk P K Gl f (d (m + 1))) (hc : c = d n) : FOk P K Gl f c := by
  subst hc
  induction n with
  | zero => exact h0
  | succ n ih => exact hs n ih
end
end Go.AM
end
