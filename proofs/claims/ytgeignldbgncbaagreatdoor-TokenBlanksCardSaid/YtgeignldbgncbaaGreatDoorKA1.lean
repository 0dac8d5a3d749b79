/- Binary and unary operators, conversions of numbers. -/
import Derived.Test.YtgeignldbgncbaaGreatDoorKA0
section
set_option linter.constructorNameAsVariable false
set_option linter.unusedVariables false
set_option linter.unusedSimpArgs false
namespace Go.AM
section
variable {P : Program} {F : Nat → Prop} {w0 w : World} {N : Nat} {U : Nat → Prop} {T : Nat → D} {h : Nat → Blk} {ι : Nat → Option (Nat × Nat × Nat)} {a : Act} {Q : Exit → Act → World → Prop} {M : Wd} {E : Env}
theorem run_v {s : Sem Value} {v : Value} {w : World} (hs : s.run P w = .ok v w) : (do pure (Next.value (← s)) : Sem Next).run P w = .ok (.value v) w := by
  simp [Sem.run_bind, hs]
theorem guard_other {op : BinOp} {t : TypeId} {x y : Operand} {u v : Value} (h1 : u ≠ .nilIface ∨ v ≠ .nilIface) (h2 : AM.isAgg u = false ∨ AM.isAgg v = false) : (eqGuard op t x y u v).run P w = .ok () w := by
  unfold eqGuard
  cases op <;> simp <;> (cases u <;> cases v <;> simp_all [AM.isAgg])
theorem guard_agg {op : BinOp} {t : TypeId} {x y : Operand} {u v : Value} (hu : AM.isAgg u = true) (hv : AM.isAgg v = true) (ht : P.eqGuardType P.depth t = false) : (eqGuard op t x y u v).run P w = .ok () w := by
  unfold eqGuard
  cases u <;> simp [AM.isAgg] at hu
  cases v <;> simp [AM.isAgg] at hv
  cases op <;> simp [ht]
theorem guard_nil {op : BinOp} {t : TypeId} {x y : Operand} (hc : (AM.isConst x || AM.isConst y) = true) : (eqGuard op t x y .nilIface .nilIface).run P w = .ok () w := by
  unfold eqGuard
  cases op <;> simp <;> (cases x <;> cases y <;> simp_all [AM.isConst])
theorem bin_eql {op : BinOp} {t : TypeId} {u v : Value} {r : Bool} (ho : op = .eql ∨ op = .neq) (hs : ∀ k n, u ≠ .int k n ∨ ∀ k' n', v ≠ .int k' n') (hs2 : ∀ s, u ≠ .string s ∨ ∀ s', v ≠ .string s')
    (hf : (∀ k b, u ≠ .float k b) ∧ ∀ k b c, u ≠ .complex k b c) (h : (Op.equal t u v).run P w = .ok r w) : (binOp op t u v).run P w = .ok (.bool (if op = .neq then !r else r)) w := by
  rcases ho with rfl | rfl
  · have e : binOp .eql t u v = (do pure (Value.bool (← Op.equal t u v))) := by
      unfold binOp
      split <;> simp_all
    rw [e]
    simp [Sem.run_bind, h]
  · have e : binOp .neq t u v = (do pure (Value.bool (!(← Op.equal t u v)))) := by
      unfold binOp
      split <;> simp_all
    rw [e]
    simp [Sem.run_bind, h]
theorem small_le {n : Int} (h : small n = true) : n ≤ 9223372036854775807 := by
  unfold small at h
  cases n with
  | ofNat k => simp only [Nat.ble_eq] at h; simp only [Int.ofNat_eq_natCast]; omega
  | negSucc k => omega
/-- References that can be compared. -/
theorem run_nilq (K : TOk P E) {t : TypeId} (ht : E.ty t = some (.r .p)) {r r' : Ref} {c : Bool} (hc : nilq r r' = some c) {u v : Value} (hu : RR M r u) (hv : RR M r' v)
    (al : ∀ b, r = .p b ∨ r' = .p b → shp (M.h b) ≠ none) : (Op.equal t u v).run P w = .ok c w := by
  obtain ⟨I, hI, hty⟩ := Env.ty_some ht
  have ok := K.ti t I hI
  unfold tiOk at ok
  simp only [Bool.and_eq_true] at ok
  have ok := ok.2
  rw [hty] at ok
  have hpt : ∀ (b : Nat) (v : Value), RR M (.p b) v → shp (M.h b) ≠ none → ∃ g, v = .pointer (some ⟨g, 0, none⟩) := fun b v h ha => by
    obtain ⟨g, c, _, e⟩ := h.2 ha
    exact ⟨g, e⟩
  cases hd : P.underlying t with
  | none => simp [hd] at ok
  | some d =>
    rw [hd] at ok
    have hk : ∃ el, d = .pointer el := by
      cases d <;> simp at ok
      exact ⟨_, rfl⟩
    obtain ⟨el, rfl⟩ := hk
    have eqp : ∀ (x y : Option Addr) (c : Bool), (x = none ∧ y = none ∧ c = true) ∨ (x = none ∧ y ≠ none ∧ c = false) ∨ (x ≠ none ∧ y = none ∧ c = false) → (Op.equal t (.pointer x) (.pointer y)).run P w = .ok c w := by
      intro x y c hxy
      show (Op.equalIn (9999 + 1) t _ _).run P w = _
      generalize 9999 = dd
      rcases hxy with ⟨rfl, rfl, rfl⟩ | ⟨rfl, hy, rfl⟩ | ⟨hx, rfl, rfl⟩
      · simp [Op.equalIn, run_underlying hd]
      · cases y <;> simp [Op.equalIn, run_underlying hd] at hy ⊢
      · cases x <;> simp [Op.equalIn, run_underlying hd] at hx ⊢
    cases r <;> cases r' <;> simp [nilq] at hc <;> subst hc
    · obtain rfl : u = .pointer none := hu
      obtain rfl : v = .pointer none := hv
      exact eqp _ _ _ (.inl ⟨rfl, rfl, rfl⟩)
    · rename_i b
      obtain rfl : u = .pointer none := hu
      obtain ⟨g, rfl⟩ := hpt b v hv (al b (.inr rfl))
      exact eqp _ _ _ (.inr (.inl ⟨rfl, by simp, rfl⟩))
    · rename_i b
      obtain rfl : v = .pointer none := hv
      obtain ⟨g, rfl⟩ := hpt b u hu (al b (.inl rfl))
      exact eqp _ _ _ (.inr (.inr ⟨by simp, rfl, rfl⟩))
theorem cmp_to {op : BinOp} {c : Bool} {d : D} (hd : (cmpD op c).to d) : (op = .eql ∨ op = .neq) ∧ d = .v .b (if op = .neq then !c else c) [] := by
  cases op <;> simp [cmpD, G.to] at hd ⊢ <;> exact hd.symm
theorem isDe_shp {b : Blk} (hb : isDe b = false) : shp b ≠ none := by cases b <;> simp_all [isDe, shp]
theorem run_binD (K : TOk P E) {op : BinOp} {t : TypeId} {x y : Operand} {X Y : D} {va vb : Value} {d : D} (hd : (binD E M.h op t (AM.isConst x || AM.isConst y) X Y).to d) (hX : DR M X va) (hY : DR M Y vb) :
    ∃ v, (eqGuard op t x y va vb).run P w = .ok () w ∧ (binOp op t va vb).run P w = .ok v w ∧ DR M d v := by
  unfold binD at hd
  split at hd
  · obtain ⟨rfl, _⟩ := dr_i hX
    obtain ⟨rfl, _⟩ := dr_i hY
    have g : ∀ k k' x' y', (eqGuard op t x y (.int k x') (.int k' y')).run P w = .ok () w := fun _ _ _ _ => guard_other (.inl (by simp)) (.inl rfl)
    split at hd
    · obtain ⟨v, h1, h2⟩ := run_shift (P := P) (w := w) (M := M) (t := t) hd (.inl rfl); exact ⟨v, g _ _ _ _, h1, h2⟩
    · obtain ⟨v, h1, h2⟩ := run_shift (P := P) (w := w) (M := M) (t := t) hd (.inr rfl); exact ⟨v, g _ _ _ _, h1, h2⟩
    · rename_i hn1 hn2
      split at hd
      · rename_i hk; subst hk
        obtain ⟨v, h1, h2⟩ := run_binI (P := P) (w := w) (M := M) (t := t) hd ⟨hn1, hn2⟩; exact ⟨v, g _ _ _ _, h1, h2⟩
      · exact hd.elim
  · rename_i a1 _ b1 _
    obtain ⟨rfl, _⟩ := dr_s hX
    obtain ⟨rfl, _⟩ := dr_s hY
    have g : (eqGuard op t x y (.string a1) (.string b1)).run P w = .ok () w := guard_other (.inl (by simp)) (.inl rfl)
    split at hd
    · cases hs : small (len a1 + len b1) with
      | false => exact (hd.2 hs).elim
      | true =>
        have e := hd.1 hs; subst e
        have hle := small_le hs
        refine ⟨.string (cat a1 b1), g, ?_, drs_ _⟩
        have hle' : (a1.size : Int) + (b1.size : Int) ≤ 9223372036854775807 := by unfold len at hle; exact hle
        have : ¬ (((a1.size + b1.size : Nat) : Int) > IntKind.i64.max) := by
          have e : IntKind.i64.max = 9223372036854775807 := by decide
          rw [e]; omega
        unfold binOp Op.stringOp
        simp only [this, if_false]
        unfold cat
        rfl
    · obtain ⟨ho, rfl⟩ := cmp_to hd
      refine ⟨.bool (if op = .neq then !seq a1 b1 else seq a1 b1), g, ?_, drb _⟩
      rcases ho with rfl | rfl <;> simp [binOp, Op.stringOp, seq]
  · rename_i a1 _ b1 _
    obtain ⟨rfl, _⟩ := dr_b hX
    obtain ⟨rfl, _⟩ := dr_b hY
    split at hd
    · rename_i ht
      obtain ⟨ho, rfl⟩ := cmp_to hd
      obtain ⟨I, hI, hty⟩ := Env.ty_some ht
      obtain ⟨_, _, h3, _, _⟩ := tok_base K hI
      have hdp := h3 (by rw [hty]; rfl)
      rw [hty] at hdp
      have hu : P.underlying t = some .bool := by
        unfold deep at hdp
        split at hdp <;> first | assumption | simp_all
      have he : (Op.equal t (.bool a1) (.bool b1)).run P w = .ok (a1 == b1) w := run_equalIn_bool' w 9999 t a1 b1 hu
      exact ⟨_, guard_other (.inl (by simp)) (.inl rfl), bin_eql ho (fun k n => .inl (by simp)) (fun s => .inl (by simp)) ⟨by simp, by simp⟩ he, drb _⟩
    · exact hd.elim
  · rename_i r _ r'
    split at hd
    · rename_i hc
      obtain ⟨ht, hal⟩ := hc
      split at hd
      · rename_i c hq
        obtain ⟨ho, rfl⟩ := cmp_to hd
        obtain ⟨_, e1, h1⟩ := dr_r hX
        obtain ⟨_, e2, h2⟩ := dr_r hY
        simp at e1 e2; subst e1; subst e2
        have al : ∀ b, r = .p b ∨ r' = .p b → shp (M.h b) ≠ none := by
          intro b hb
          simp only [alr, List.all_cons, List.all_nil, Bool.and_true, Bool.and_eq_true] at hal
          rcases hb with rfl | rfl
          · exact isDe_shp (by simpa using hal.1)
          · exact isDe_shp (by simpa using hal.2)
        have hp : ∀ (r : Ref) (v : Value), (r = .np ∨ ∃ b, r = .p b ∧ shp (M.h b) ≠ none) → RR M r v → ∃ a, v = .pointer a := by
          intro r v hr hv
          rcases hr with rfl | ⟨b, rfl, hb⟩
          · exact ⟨_, hv⟩
          · obtain ⟨g, c, _, e⟩ := hv.2 hb; exact ⟨_, e⟩
        have kk : ∀ r r' c, nilq r r' = some c → (r = .np ∨ ∃ b, r = .p b) ∧ (r' = .np ∨ ∃ b, r' = .p b) := by
          intro r r' c h
          cases r <;> cases r' <;> simp [nilq] at h ⊢
        obtain ⟨k1, k2⟩ := kk r r' c hq
        obtain ⟨p1, rfl⟩ := hp r va (k1.imp id fun ⟨b, e⟩ => ⟨b, e, al b (.inl e)⟩) h1
        obtain ⟨p2, rfl⟩ := hp r' vb (k2.imp id fun ⟨b, e⟩ => ⟨b, e, al b (.inr e)⟩) h2
        exact ⟨_, guard_other (.inl (by simp)) (.inl rfl), bin_eql ho (fun k n => .inl (by simp)) (fun s => .inl (by simp)) ⟨by simp, by simp⟩ (run_nilq K ht hq h1 h2 al), drb _⟩
      · exact hd.elim
    · exact hd.elim
  · rename_i u z u' z' _ _ _
    split at hd
    · rename_i hc
      obtain ⟨hag, hnr, ht⟩ := hc
      split at hd
      · rename_i y' hy
        obtain ⟨rfl, rfl⟩ := cst_some hy
        obtain ⟨ho, rfl⟩ := cmp_to hd
        obtain ⟨rfl, w1⟩ := dr_mk hnr hX
        obtain ⟨rfl, w2⟩ := dr_mk hnr hY
        obtain ⟨I, hI, hty⟩ := Env.ty_some ht
        obtain ⟨_, _, h3, h4, _⟩ := tok_base K hI
        subst hty
        have e := deep_eq (P := P) (w := w) 16 t _ (h3 hnr) z z' w1 w2 10000 (by omega)
        rw [← eqv_vals _ z z' hnr w1 w2] at e
        have a1 : ∀ z, mk I.ty z = .agg (vals I.ty z).toArray := fun z => by simp [mk, hag]
        rw [a1, a1] at e ⊢
        exact ⟨_, guard_agg rfl rfl (h4 hag), bin_eql ho (fun k n => .inl (by simp)) (fun s => .inl (by simp)) ⟨by simp, by simp⟩ e, drb _⟩
      · exact hd.elim
    · exact hd.elim
  · split at hd
    · rename_i hc
      obtain ⟨ho, rfl⟩ := cmp_to hd
      obtain ⟨ms, hu⟩ := K.itf t hc.1
      obtain rfl : va = .nilIface := hX
      obtain rfl : vb = .nilIface := hY
      have e : (Op.equal t .nilIface .nilIface).run P w = .ok true w := by
        show (Op.equalIn (9999 + 1) t _ _).run P w = _
        generalize 9999 = dd
        simp [Op.equalIn, run_underlying hu]
      exact ⟨_, guard_nil hc.2, bin_eql ho (fun k n => .inl (by simp)) (fun s => .inl (by simp)) ⟨by simp, by simp⟩ e, drb _⟩
    · exact hd.elim
  · split at hd
    · rename_i hc
      obtain ⟨ho, rfl⟩ := cmp_to hd
      obtain ⟨ms, hu⟩ := K.itf t hc
      obtain ⟨c, rfl, _⟩ := hX
      obtain rfl : vb = .nilIface := hY
      have e : ∀ i, (Op.equal t (.iface i c) .nilIface).run P w = .ok false w := by
        intro i
        show (Op.equalIn (9999 + 1) t _ _).run P w = _
        generalize 9999 = dd
        simp [Op.equalIn, run_underlying hu]
      exact ⟨_, guard_other (.inl (by simp)) (.inl rfl), bin_eql ho (fun k n => .inl (by simp)) (fun s => .inl (by simp)) ⟨by simp, by simp⟩ (e _), drb _⟩
    · exact hd.elim
  · split at hd
    · rename_i hc
      obtain ⟨ho, rfl⟩ := cmp_to hd
      obtain ⟨ms, hu⟩ := K.itf t hc
      obtain ⟨c, rfl, _⟩ := hY
      obtain rfl : va = .nilIface := hX
      have e : ∀ i, (Op.equal t .nilIface (.iface i c)).run P w = .ok false w := by
        intro i
        show (Op.equalIn (9999 + 1) t _ _).run P w = _
        generalize 9999 = dd
        simp [Op.equalIn, run_underlying hu]
      exact ⟨_, guard_other (.inr (by simp)) (.inl rfl), bin_eql ho (fun k n => .inl (by simp)) (fun s => .inl (by simp)) ⟨by simp, by simp⟩ (e _), drb _⟩
    · exact hd.elim
  · exact hd.elim
end
end Go.AM
end
/- Operations that touch no memory: all of them. -/
section
set_option linter.constructorNameAsVariable false
set_option linter.unusedVariables false
set_option linter.unusedSimpArgs false
namespace Go.AM
section
variable {P : Program} {F : Nat → Prop} {w0 w : World} {N : Nat} {U : Nat → Prop} {T : Nat → D} {h : Nat → Blk} {ι : Nat → Option (Nat × Nat × Nat)} {a : Act} {Q : Exit → Act → World → Prop} {E : Env} {o : Oper} {nx : Nat} {e : Eff}
/-- What is to be shown of each operation. -/
def Ok (P : Program) (E : Env) (o : Oper) : Prop :=
  ∀ (F : Nat → Prop) (w0 w : World) (N : Nat) (U : Nat → Prop) (T : Nat → D) (h : Nat → Blk) (ι : Nat → Option (Nat × Nat × Nat)) (a : Act) (Q : Exit → Act → World → Prop) (nx : Nat) (e : Eff),
    Rel F w0 N ⟨U, h, ι⟩ T a w → (exo E nx (ev T) h o).to e → (∀ j, nx ≤ j → j < e.2.2 → ¬ U j) →
    Goes P o a w F w0 N U T h ι e Q
theorem ok_move {x : Operand} (ho : o.op = .move x ∨ o.op = .assign x) : Ok P E o := by
  intro F w0 w N U T h ι a Q nx e R he _
  have he' : (val (ev T x) nx).to e := by rcases ho with ho | ho <;> simpa [exo, ho] using he
  obtain rfl : (ev T x, [], nx) = e := he'
  exact wp_val R (by rcases ho with ho | ho <;> simp [execOp, ho]) (dr_ev R x)
theorem ok_binOp {op : BinOp} {t : TypeId} {x y : Operand} {yt : TypeId} (K : TOk P E) (ho : o.op = .binOp op t x y yt) : Ok P E o := by
  intro F w0 w N U T h ι a Q nx e R he _
  simp only [exo, ho] at he
  obtain ⟨d, hd, rfl⟩ := to_gval he
  obtain ⟨v, h1, h2, h3⟩ := run_binD (P := P) (w := w) K hd (dr_ev R x) (dr_ev R y)
  exact wp_val R (by simp [execOp, ho, Sem.run_bind, h1, h2]) h3
theorem ok_unOp {op : UnOp} {t : TypeId} {x : Operand} (ho : o.op = .unOp op t x) : Ok P E o := by
  intro F w0 w N U T h ι a Q nx e R he _
  simp only [exo, ho] at he
  obtain ⟨d, hd, rfl⟩ := to_ofo he
  have hx := dr_ev R x
  unfold unD at hd
  split at hd
  · rename_i k n _ e1
    simp at hd; subst hd
    rw [e1] at hx
    obtain ⟨hv, _⟩ := dr_i hx
    exact wp_val (v := .int k (ws k 0 n)) R (by simp [execOp, ho, hv, Op.unary, Op.intArith, ws]) (dri _ _)
  · rename_i b _ e1
    simp at hd; subst hd
    rw [e1] at hx
    obtain ⟨hv, _⟩ := dr_b hx
    exact wp_val (v := .bool (!b)) R (by simp [execOp, ho, hv, Op.unary]) (drb _)
  · rename_i k n _ e1
    simp at hd; subst hd
    rw [e1] at hx
    obtain ⟨hv, _⟩ := dr_i hx
    exact wp_val (v := .int k (bxo k (if k.signed then -1 else k.max) n)) R (by simp [execOp, ho, hv, Op.unary, Op.intBits, bxo]) (dri _ _)
  · cases hd
theorem ok_pick {c x y : Operand} (ho : o.op = .pick c x y) : Ok P E o := by
  intro F w0 w N U T h ι a Q nx e R he _
  simp only [exo, ho] at he
  split at he
  · rename_i c' _ e1
    obtain ⟨d, hd, rfl⟩ := to_ofo he
    have hc := dr_ev R c
    rw [e1] at hc
    obtain ⟨hv, _⟩ := dr_b hc
    have run : (execOp a.eval o).run P w = .ok (.value (if c' then a.eval x else a.eval y)) w := by
      simp [execOp, ho, hv, asBool]
    refine wp_val R run ?_
    have hx := dr_ev R x
    have hy := dr_ev R y
    unfold pickD at hd
    split at hd
    · rename_i e1 e2
      split at hd
      · rename_i hk; subst hk
        simp at hd; subst hd
        rw [e1] at hx; rw [e2] at hy
        obtain ⟨h1, _⟩ := dr_i hx
        obtain ⟨h2, _⟩ := dr_i hy
        rw [h1, h2]
        cases c' <;> exact dri _ _
      · cases hd
    · rename_i e1 e2
      simp at hd; subst hd
      rw [e1] at hx; rw [e2] at hy
      obtain ⟨h1, _⟩ := dr_b hx
      obtain ⟨h2, _⟩ := dr_b hy
      rw [h1, h2]
      cases c' <;> exact drb _
    · rename_i e1 e2
      simp at hd; subst hd
      rw [e1] at hx; rw [e2] at hy
      obtain ⟨h1, _⟩ := dr_s hx
      obtain ⟨h2, _⟩ := dr_s hy
      rw [h1, h2]
      cases c' <;> exact drs_ _
    · cases c' <;> simp at hd
      subst hd; exact hx
    · cases c' <;> simp at hd
      subst hd; exact hy
    · cases hd
  · exact he.elim
theorem drl_get {M : Wd} : ∀ {l : List D} {vs : List Value}, DRL M l vs → ∀ (j : Nat) (d : D), l[j]? = some d → ∃ v, vs[j]? = some v ∧ DR M d v
  | [], [], _, j, d, h => by simp at h
  | d :: l, v :: vs, h, 0, d', hd => by simp at hd; subst hd; exact ⟨v, rfl, h.1⟩
  | d :: l, v :: vs, h, j + 1, d', hd => by
    obtain ⟨v', h1, h2⟩ := drl_get h.2 j d' (by simpa using hd)
    exact ⟨v', by simpa using h1, h2⟩
  | [], _ :: _, h, _, _, _ => h.elim
  | _ :: _, [], h, _, _, _ => h.elim
theorem ok_extract {x : Operand} {j : Nat} (ho : o.op = .extract x j) : Ok P E o := by
  intro F w0 w N U T h ι a Q nx e R he _
  simp only [exo, ho] at he
  split at he
  · rename_i l e1
    have hx := dr_ev R x
    rw [e1] at hx
    obtain ⟨vs, hv, hl⟩ := hx
    split at he
    · rename_i d hd
      obtain rfl : (d, [], nx) = e := he
      obtain ⟨v, h1, h2⟩ := drl_get hl j d hd
      have h1' : vs[j]? = some v := by simpa using h1
      exact wp_val R (by simp [execOp, ho, hv, Instr.extract, h1']) h2
    · exact he.elim
  · exact he.elim
theorem tok_conc (K : TOk P E) {t : TypeId} {I : TI} (h : E.ti t = some I) : ∃ d, P.underlying t = some d ∧ ∀ ms, d ≠ .interface ms := by
  have := K.ti t I h
  unfold tiOk at this
  simp only [Bool.and_eq_true] at this
  have h5 := this.2
  cases hu : P.underlying t with
  | none => simp [hu] at h5
  | some d =>
    refine ⟨d, rfl, fun ms hd => ?_⟩
    subst hd
    simp [hu] at h5
theorem ok_makeInterface {t : TypeId} {x : Operand} (K : TOk P E) (ho : o.op = .makeInterface t x) : Ok P E o := by
  intro F w0 w N U T h ι a Q nx e R he _
  simp only [exo, ho] at he
  split at he
  · rename_i hs
    obtain ⟨I, hI⟩ := Option.isSome_iff_exists.1 hs
    obtain rfl : (D.fc t (ev T x), [], nx) = e := he
    obtain ⟨d, hd, hn⟩ := tok_conc K hI
    refine wp_val (v := .iface t (a.eval x)) R ?_ ⟨_, rfl, dr_ev R x⟩
    have : (Instr.makeInterface t (a.eval x)).run P w = .ok (.iface t (a.eval x)) w := by
      unfold Instr.makeInterface
      rw [Sem.run_bind, run_underlying hd]
      cases d <;> simp_all
    simp [execOp, ho, Sem.run_bind, this]
  · exact he.elim
theorem drl_map (R : Rel F w0 N ⟨U, h, ι⟩ T a w) : ∀ (l : List Operand), DRL ⟨U, h, ι⟩ (l.map (ev T)) (l.map a.eval)
  | [] => trivial | x :: l => ⟨dr_ev R x, drl_map R l⟩
theorem ok_makeFunc {f : FuncId} {fs cs : Array Operand} (ho : o.op = .makeFunc (.func f) fs cs) : Ok P E o := by
  intro F w0 w N U T h ι a Q nx e R he _
  simp only [exo, ho] at he
  split at he
  case isFalse => exact he.elim
  rename_i hfs
  have hfs : fs = #[] := by simpa using hfs
  subst hfs
  obtain rfl : (D.clo f (cs.toList.map (ev T)), [], nx) = e := he
  refine wp_val (v := .func (.func f) #[] (cs.map a.eval)) R (by simp [execOp, ho, Instr.makeFunc]) ⟨_, rfl, ?_⟩
  have := drl_map R cs.toList
  simpa using this
end
end Go.AM
end
/- Addresses, parts of data, slices. -/
section
set_option linter.constructorNameAsVariable false
set_option linter.unusedVariables false
set_option linter.unusedSimpArgs false
set_option linter.unnecessarySimpa false
namespace Go.AM
/-- A path within a block. -/
def PB (b : Blk) (q : List Stp) (off : Nat) (u : Ty) : Prop :=
  match b with
  | .o t _ _ | .sh t => Pth t q off u
  | .w _ t l _ => ∃ j q' o', q = .i j :: q' ∧ j < l.length ∧ off = j * t.sz + o' ∧ Pth t q' o' u
  | _ => False
theorem pth_ty : ∀ (t : Ty) (q : List Stp) (off : Nat) (u : Ty), Pth t q off u → tyAt t q = some u := by
  intro t
  induction t with
  | p a b iha ihb =>
    intro q off u hp
    match q with
    | [] => obtain ⟨_, rfl⟩ := hp; rfl
    | .f 0 :: q => simp only [Pth] at hp; simpa [tyAt] using iha q off u hp
    | .f (j + 1) :: q => simp only [Pth] at hp; obtain ⟨o, _, hp⟩ := hp; simpa [tyAt] using ihb (.f j :: q) o u hp
    | .i _ :: _ => simp [Pth] at hp
    | .o _ _ :: _ => simp [Pth] at hp
  | l n t ih =>
    intro q off u hp
    match q with
    | [] => obtain ⟨_, rfl⟩ := hp; rfl
    | .i k :: q => simp only [Pth] at hp; obtain ⟨_, o, _, hp⟩ := hp; simpa [tyAt] using ih q o u hp
    | .f _ :: _ => simp [Pth] at hp
    | .o _ _ :: _ => simp [Pth] at hp
  | a k n =>
    intro q off u hp
    match q with
    | [] => obtain ⟨_, rfl⟩ := hp; rfl
    | [.o o none] => simp only [Pth] at hp; obtain ⟨_, _, rfl⟩ := hp; rfl
    | [.o o (some m)] => simp only [Pth] at hp; obtain ⟨_, _, rfl⟩ := hp; rfl
    | .o _ none :: _ :: _ => simp [Pth] at hp
    | .o _ (some _) :: _ :: _ => simp [Pth] at hp
    | .f _ :: _ => simp [Pth] at hp
    | .i _ :: _ => simp [Pth] at hp
  | _ => intro q off u hp; match q with | [] => (obtain ⟨_, rfl⟩ := hp; rfl) | _ :: _ => simp [Pth] at hp
/-- A path goes on. -/
theorem pth_app : ∀ (t : Ty) (q : List Stp) (off : Nat) (u : Ty) (q' : List Stp) (off' : Nat) (u' : Ty), Pth t q off u → Pth u q' off' u' → (∀ k n, u ≠ .a k n) → Pth t (q ++ q') (off + off') u' := by
  intro t
  induction t with
  | p a b iha ihb =>
    intro q off u q' off' u' hp hq hn
    match q with
    | [] => obtain ⟨rfl, rfl⟩ := hp; simpa using hq
    | .f 0 :: q => simp only [Pth] at hp; exact iha q off u q' off' u' hp hq hn
    | .f (j + 1) :: q =>
      simp only [Pth] at hp
      obtain ⟨o, rfl, hp⟩ := hp
      exact ⟨o + off', by omega, ihb (.f j :: q) o u q' off' u' hp hq hn⟩
    | .i _ :: _ => simp [Pth] at hp
    | .o _ _ :: _ => simp [Pth] at hp
  | l n t ih =>
    intro q off u q' off' u' hp hq hn
    match q with
    | [] => obtain ⟨rfl, rfl⟩ := hp; simpa using hq
    | .i k :: q =>
      simp only [Pth] at hp
      obtain ⟨hk, o, rfl, hp⟩ := hp
      exact ⟨hk, o + off', by omega, ih q o u q' off' u' hp hq hn⟩
    | .f _ :: _ => simp [Pth] at hp
    | .o _ _ :: _ => simp [Pth] at hp
  | a k n =>
    intro q off u q' off' u' hp hq hn
    match q with
    | [] => obtain ⟨rfl, rfl⟩ := hp; exact absurd rfl (hn k n)
    | [.o o none] =>
      simp only [Pth] at hp
      obtain ⟨h1, h2, rfl⟩ := hp
      cases q' with
      | nil => obtain ⟨rfl, rfl⟩ := hq; exact ⟨h1, h2, rfl⟩
      | cons s q' => simp [Pth] at hq
    | [.o o (some m)] => simp only [Pth] at hp; obtain ⟨h1, h2, rfl⟩ := hp; exact absurd rfl (hn k m)
    | .o _ none :: _ :: _ => simp [Pth] at hp
    | .o _ (some _) :: _ :: _ => simp [Pth] at hp
    | .f _ :: _ => simp [Pth] at hp
    | .i _ :: _ => simp [Pth] at hp
  | _ => intro q off u q' off' u' hp hq hn; match q with | [] => (obtain ⟨rfl, rfl⟩ := hp; simpa using hq) | _ :: _ => simp [Pth] at hp
/-- .. into a row of integers. -/
def subT (k : IntKind) : Option Nat → Ty | none => .i k | some m => .a k m
theorem lastO_cons (s : Stp) (q : List Stp) (h : q ≠ []) : lastO (s :: q) = lastO q := by
  cases q with
  | nil => exact absurd rfl h
  | cons s' q => simp [lastO, List.getLast?_cons_cons]
theorem intoA_cons (s : Stp) (q : List Stp) (h : q ≠ []) (o' m : Option Nat) : intoA (s :: q) o' m = s :: intoA q o' m := by
  unfold intoA
  rw [lastO_cons s q h]
  cases q with
  | nil => exact absurd rfl h
  | cons s' q => cases lastO (s' :: q) <;> simp
theorem pth_into : ∀ (t : Ty) (q : List Stp) (off : Nat) (k : IntKind) (n lo : Nat) (o' m : Option Nat), Pth t q off (.a k n) → lo + m.getD 1 ≤ n → o'.getD 0 = ((lastO q).getD none).getD 0 + lo → Pth t (intoA q o' m) (off + lo) (subT k m) := by
  intro t
  have base : ∀ (k : IntKind) (n lo : Nat) (o' m : Option Nat), lo + m.getD 1 ≤ n → o'.getD 0 = lo → Pth (.a k n) [.o o' m] lo (subT k m) := by
    intro k n lo o' m h1 h2
    cases m with
    | none => exact ⟨by simp at h1; omega, h2.symm, rfl⟩
    | some m => exact ⟨by simp at h1; omega, h2.symm, rfl⟩
  induction t with
  | p a b iha ihb =>
    intro q off k n lo o' m hp h1 h2
    match q with
    | [] => obtain ⟨_, h⟩ := hp; simp at h
    | [.f 0] =>
      simp only [Pth] at hp
      have e : Pth a [] off (.a k n) := by cases a <;> simpa [Pth] using hp
      have := iha [] off k n lo o' m e h1 (by simpa [lastO] using h2)
      simpa [intoA, lastO, Pth] using this
    | .f 0 :: s :: q =>
      simp only [Pth] at hp
      rw [intoA_cons _ _ (by simp)]
      exact iha (s :: q) off k n lo o' m hp h1 (by rwa [lastO_cons _ _ (by simp)] at h2)
    | [.f (j + 1)] =>
      simp only [Pth] at hp
      obtain ⟨o, rfl, hp⟩ := hp
      have := ihb [.f j] o k n lo o' m hp h1 (by simpa [lastO] using h2)
      simp only [intoA, lastO, List.getLast?_singleton, List.cons_append, List.nil_append] at this ⊢
      exact ⟨o + lo, by omega, this⟩
    | .f (j + 1) :: s :: q =>
      simp only [Pth] at hp
      obtain ⟨o, rfl, hp⟩ := hp
      rw [intoA_cons _ _ (by simp)]
      have := ihb (.f j :: s :: q) o k n lo o' m hp h1 (by rw [lastO_cons _ _ (by simp)] at h2 ⊢; exact h2)
      rw [intoA_cons _ _ (by simp)] at this
      exact ⟨o + lo, by omega, this⟩
    | .i _ :: _ => simp [Pth] at hp
    | .o _ _ :: _ => simp [Pth] at hp
  | l c t ih =>
    intro q off k n lo o' m hp h1 h2
    match q with
    | [] => obtain ⟨_, h⟩ := hp; simp at h
    | [.i j] =>
      simp only [Pth] at hp
      obtain ⟨hj, o, rfl, hp⟩ := hp
      have e : Pth t [] o (.a k n) := by cases t <;> simpa [Pth] using hp
      have := ih [] o k n lo o' m e h1 (by simpa [lastO] using h2)
      exact ⟨hj, o + lo, by omega, by simpa [intoA, lastO] using this⟩
    | .i j :: s :: q =>
      simp only [Pth] at hp
      obtain ⟨hj, o, rfl, hp⟩ := hp
      rw [intoA_cons _ _ (by simp)]
      exact ⟨hj, o + lo, by omega, ih (s :: q) o k n lo o' m hp h1 (by rwa [lastO_cons _ _ (by simp)] at h2)⟩
    | .f _ :: _ => simp [Pth] at hp
    | .o _ _ :: _ => simp [Pth] at hp
  | a k' c =>
    intro q off k n lo o' m hp h1 h2
    match q with
    | [] =>
      obtain ⟨rfl, h⟩ := hp
      simp at h; obtain ⟨rfl, rfl⟩ := h
      simpa [intoA, lastO] using base _ _ lo o' m h1 (by simpa [lastO] using h2)
    | [.o o none] => simp only [Pth] at hp; obtain ⟨_, _, h⟩ := hp; simp at h
    | [.o o (some c')] =>
      simp only [Pth] at hp
      obtain ⟨g1, rfl, h⟩ := hp
      simp at h; obtain ⟨rfl, rfl⟩ := h
      simpa [intoA, lastO] using base _ _ (o.getD 0 + lo) o' m (by omega) (by simpa [lastO] using h2)
    | .o _ none :: _ :: _ => simp [Pth] at hp
    | .o _ (some _) :: _ :: _ => simp [Pth] at hp
    | .f _ :: _ => simp [Pth] at hp
    | .i _ :: _ => simp [Pth] at hp
  | _ => intro q off k n lo o' m hp h1 h2; match q with | [] => (obtain ⟨_, h⟩ := hp; simp at h) | _ :: _ => simp [Pth] at hp
end Go.AM
end
/- Addresses of fields and elements; fields and elements. -/
section
set_option linter.constructorNameAsVariable false
set_option linter.unusedVariables false
set_option linter.unusedSimpArgs false
set_option linter.unnecessarySimpa false
namespace Go.AM
section
variable {P : Program} {F : Nat → Prop} {w0 w : World} {N : Nat} {U : Nat → Prop} {T : Nat → D} {h : Nat → Blk} {ι : Nat → Option (Nat × Nat × Nat)} {a : Act} {Q : Exit → Act → World → Prop} {E : Env} {o : Oper} {nx : Nat} {e : Eff} {M : Wd}
theorem dr_ptr {d : D} {v : Value} {b : Nat} {q : List Stp} (hd : DR M d v) (hp : ptr M.h d = some (b, q)) :
    M.U b ∧ ∃ g o c off u, M.ι b = some (g, o, c) ∧ v = .pointer (some ⟨g, o + off, none⟩) ∧ PB (M.h b) q off u := by
  unfold ptr at hp
  split at hp
  · rename_i b'
    split at hp
    · rename_i t x rs hb
      simp at hp; obtain ⟨rfl, rfl⟩ := hp
      obtain ⟨r, e, hr⟩ := dr_r hd
      simp at e; subst e
      obtain ⟨hu, h⟩ := hr
      obtain ⟨g, c, h1, h2⟩ := h (by simp [hb, shp])
      exact ⟨hu, g, 0, c, 0, t, h1, by simpa using h2, by rw [hb]; cases t <;> exact ⟨rfl, rfl⟩⟩
    · rename_i t hb
      simp at hp; obtain ⟨rfl, rfl⟩ := hp
      obtain ⟨r, e, hr⟩ := dr_r hd
      simp at e; subst e
      obtain ⟨hu, h⟩ := hr
      obtain ⟨g, c, h1, h2⟩ := h (by simp [hb, shp])
      exact ⟨hu, g, 0, c, 0, t, h1, by simpa using h2, by rw [hb]; cases t <;> exact ⟨rfl, rfl⟩⟩
    · cases hp
  · rename_i b' q'
    obtain ⟨hu, h⟩ := hd
    split at hp
    · rename_i t x rs hb
      simp at hp; obtain ⟨rfl, rfl⟩ := hp
      obtain ⟨g, o, c, off, u, h1, h2, h3⟩ := h 0 t 0 (by simp [hb, shp])
      rcases h3 with ⟨_, h3⟩ | ⟨h3, _⟩
      · exact ⟨hu, g, o, c, off, u, h1, h2, by rw [hb]; exact h3⟩
      · cases h3
    · rename_i ee t l own hb
      simp at hp; obtain ⟨rfl, rfl⟩ := hp
      obtain ⟨g, o, c, off, u, h1, h2, h3⟩ := h 1 t l.length (by simp [hb, shp])
      rcases h3 with ⟨h3, _⟩ | ⟨_, h3⟩
      · cases h3
      · exact ⟨hu, g, o, c, off, u, h1, h2, by rw [hb]; exact h3⟩
    · rename_i t hb
      simp at hp; obtain ⟨rfl, rfl⟩ := hp
      obtain ⟨g, o, c, off, u, h1, h2, h3⟩ := h 0 t 0 (by simp [hb, shp])
      rcases h3 with ⟨_, h3⟩ | ⟨h3, _⟩
      · exact ⟨hu, g, o, c, off, u, h1, h2, by rw [hb]; exact h3⟩
      · cases h3
    · cases hp
  · cases hp
theorem dr_ip {b : Nat} {q : List Stp} {g o c off : Nat} {u : Ty} (hu : M.U b) (h1 : M.ι b = some (g, o, c)) (h2 : PB (M.h b) q off u) : DR M (.ip b q) (.pointer (some ⟨g, o + off, none⟩)) := by
  refine ⟨hu, fun k t m hk => ⟨g, o, c, off, u, h1, rfl, ?_⟩⟩
  cases hb : M.h b with
  | o t' x rs => rw [hb] at hk h2; simp [shp] at hk; obtain ⟨rfl, rfl, rfl⟩ := hk; exact .inl ⟨rfl, h2⟩
  | w e t' l own => rw [hb] at hk h2; simp [shp] at hk; obtain ⟨rfl, rfl, rfl⟩ := hk; exact .inr ⟨rfl, h2⟩
  | sh t' => rw [hb] at hk h2; simp [shp] at hk; obtain ⟨rfl, rfl, rfl⟩ := hk; exact .inl ⟨rfl, h2⟩
  | it s p => rw [hb] at h2; exact h2.elim
  | de => rw [hb] at h2; exact h2.elim
theorem pb_app {b : Blk} {q q' : List Stp} {off off' : Nat} {u u' : Ty} (hp : PB b q off u) (hq : Pth u q' off' u') (hn : ∀ k n, u ≠ .a k n) : PB b (q ++ q') (off + off') u' := by
  cases b with
  | o t x rs => exact pth_app t q off u q' off' u' hp hq hn
  | sh t => exact pth_app t q off u q' off' u' hp hq hn
  | w e t l own =>
    obtain ⟨j, q1, o1, rfl, hj, rfl, h1⟩ := hp
    exact ⟨j, q1 ++ q', o1 + off', rfl, hj, by omega, pth_app t q1 o1 u q' off' u' h1 hq hn⟩
  | it s p => exact hp.elim
  | de => exact hp.elim
theorem pb_into {b : Blk} {q : List Stp} {off : Nat} {k : IntKind} {n lo : Nat} {o' m : Option Nat} (hp : PB b q off (.a k n)) (h1 : lo + m.getD 1 ≤ n) (h2 : o'.getD 0 = ((lastO q).getD none).getD 0 + lo) : PB b (intoA q o' m) (off + lo) (subT k m) := by
  cases b with
  | o t x rs => exact pth_into t q off k n lo o' m hp h1 h2
  | sh t => exact pth_into t q off k n lo o' m hp h1 h2
  | w e t l own =>
    obtain ⟨j, q1, o1, rfl, hj, rfl, h3⟩ := hp
    cases q1 with
    | nil =>
      have := pth_into t [] o1 k n lo o' m h3 h1 (by simpa [lastO] using h2)
      exact ⟨j, [.o o' m], o1 + lo, by simp [intoA, lastO], hj, by omega, by simpa [intoA, lastO] using this⟩
    | cons s q1 =>
      have := pth_into t (s :: q1) o1 k n lo o' m h3 h1 (by rwa [lastO_cons _ _ (by simp)] at h2)
      exact ⟨j, intoA (s :: q1) o' m, o1 + lo, intoA_cons _ _ (by simp) _ _, hj, by omega, this⟩
  | it s p => exact hp.elim
  | de => exact hp.elim
theorem pb_ty {b : Blk} {q : List Stp} {off : Nat} {u u' : Ty} (hp : PB b q off u) (ht : tyB b q = some u') : u = u' := by
  cases b with
  | o t x rs => have := pth_ty t q off u hp; simp [tyB, this] at ht; exact ht
  | sh t => have := pth_ty t q off u hp; simp [tyB, this] at ht; exact ht
  | w e t l own =>
    obtain ⟨j, q1, o1, rfl, hj, rfl, h3⟩ := hp
    have := pth_ty t q1 o1 u h3
    simp [tyB, this] at ht; exact ht
  | it s p => exact hp.elim
  | de => exact hp.elim
theorem ok_nilCheck {x : Operand} (ho : o.op = .nilCheck x) : Ok P E o := by
  intro F w0 w N U T h ι a Q nx e R he _
  simp only [exo, ho] at he
  split at he
  · rename_i p hp
    obtain ⟨b, q⟩ := p
    obtain rfl : (ev T x, [], nx) = e := he
    have hx := dr_ev R x
    obtain ⟨_, g, o', c, off, u, _, hv, _⟩ := dr_ptr hx hp
    exact wp_val R (by simp [execOp, ho, hv]) hx
  · exact he.elim
/-- A struct's fields, as the tables have them. -/
theorem tok_fields (K : TOk P E) {t : TypeId} {I : TI} (hI : E.ti t = some I) {fs : Array Field} (hu : P.underlying t = some (.struct fs)) :
    (∃ a b, I.ty = .p a b ∧ (fs.toList.map fun f => (f.offset, szT P f.type, aggT P f.type)) = flds (.p a b) 0 ∧ ∀ x ∈ flds (.p a b) 0, 0 < x.2.1) ∨
    (∃ k n, I.ty = .a k n ∧ (fs.toList.map fun f => (f.offset, szT P f.type, aggT P f.type)) = (I.fs.map fun x => (x.1, x.2.getD 1, x.2.isSome)) ∧ ∀ x ∈ I.fs, 0 < x.2.getD 1 ∧ x.1 + x.2.getD 1 ≤ n) := by
  have := K.ti t I hI
  unfold tiOk at this
  simp only [Bool.and_eq_true] at this
  have h5 := this.2
  rw [hu] at h5
  cases hty : I.ty with
  | a k n =>
    rw [hty] at h5
    simp only [Bool.and_eq_true, beq_iff_eq, List.all_eq_true, decide_eq_true_eq] at h5
    exact .inr ⟨_, _, rfl, h5.1.2, fun x hx => h5.2 x hx⟩
  | p a b =>
    rw [hty] at h5
    simp only [Bool.and_eq_true, beq_iff_eq, List.all_eq_true, decide_eq_true_eq] at h5
    exact .inl ⟨_, _, rfl, h5.1.2, fun x hx => h5.2 x hx⟩
  | _ => simp [hty] at h5
theorem tok_known (K : TOk P E) {t : TypeId} {I : TI} (hI : E.ti t = some I) {fs : Array Field} (hu : P.underlying t = some (.struct fs)) {f : Field} (hf : f ∈ fs.toList) : ∃ i d, P.info? f.type = some i ∧ P.underlying f.type = some d := by
  have := K.ti t I hI
  unfold tiOk at this
  simp only [Bool.and_eq_true] at this
  have h5 := this.2
  rw [hu] at h5
  have hk : known P f.type = true := by
    cases hty : I.ty with
    | a k n =>
      rw [hty] at h5
      simp only [Bool.and_eq_true, List.all_eq_true] at h5
      exact h5.1.1.2 f hf
    | p a b =>
      rw [hty] at h5
      simp only [Bool.and_eq_true, List.all_eq_true] at h5
      exact h5.1.1 f hf
    | _ => simp [hty] at h5
  unfold known at hk
  simp only [Bool.and_eq_true] at hk
  obtain ⟨i, hi⟩ := Option.isSome_iff_exists.1 hk.1
  obtain ⟨d, hd⟩ := Option.isSome_iff_exists.1 hk.2
  exact ⟨i, d, hi, hd⟩
/-- A struct's underlying type. -/
theorem tok_struct (K : TOk P E) {t : TypeId} {I : TI} (hI : E.ti t = some I) {a b : Ty} (hty : I.ty = .p a b) : ∃ fs, P.underlying t = some (.struct fs) := by
  have := K.ti t I hI
  unfold tiOk at this
  simp only [Bool.and_eq_true] at this
  have h5 := this.2
  rw [hty] at h5
  cases hu : P.underlying t with
  | none => simp [hu] at h5
  | some d => rw [hu] at h5; cases d <;> simp at h5; exact ⟨_, rfl⟩
theorem flds_pth : ∀ (t : Ty) (o0 j : Nat) (x : Nat × Nat × Bool), (flds t o0)[j]? = some x → ∃ u, o0 ≤ x.1 ∧ Pth t [.f j] (x.1 - o0) u ∧ u.sz = x.2.1 ∧ u.ag = x.2.2
  | .p a b, o0, 0, x, h => by
    simp [flds] at h; subst h
    exact ⟨a, by simp, by simp only [Pth]; cases a <;> simp [Pth], rfl, rfl⟩
  | .p a b, o0, j + 1, x, h => by
    simp only [flds, List.getElem?_cons_succ] at h
    obtain ⟨u, h1, h2, h3⟩ := flds_pth b (o0 + a.sz) j x h
    exact ⟨u, by omega, ⟨x.1 - (o0 + a.sz), by omega, h2⟩, h3⟩
  | .i _, _, _, _, h => by simp [flds] at h
  | .b, _, _, _, h => by simp [flds] at h
  | .s, _, _, _, h => by simp [flds] at h
  | .a _ _, _, _, _, h => by simp [flds] at h
  | .r _, _, _, _, h => by simp [flds] at h
  | .u, _, _, _, h => by simp [flds] at h
  | .l _ _, _, _, _, h => by simp [flds] at h
theorem flds_lt : ∀ (t : Ty) (q : List Stp) (j off : Nat) (u : Ty), Pth t (.f j :: q) off u → j < (flds t 0).length
  | .p a b, q, 0, off, u, _ => by simp [flds]
  | .p a b, q, j + 1, off, u, h => by
    obtain ⟨o, _, h⟩ := h
    have := flds_lt b q j o u h
    have e : ∀ t o1 o2, (flds t o1).length = (flds t o2).length := by
      intro t
      induction t with
      | p a b _ ih => intro o1 o2; simp [flds, ih (o1 + a.sz) (o2 + a.sz)]
      | _ => intro o1 o2; rfl
    simp only [flds, List.length_cons]; rw [e b (0 + a.sz) 0]; omega
  | .i _, _, _, _, _, h => by simp [Pth] at h
  | .b, _, _, _, _, h => by simp [Pth] at h
  | .s, _, _, _, _, h => by simp [Pth] at h
  | .a _ _, _, _, _, _, h => by simp [Pth] at h
  | .r _, _, _, _, _, h => by simp [Pth] at h
  | .u, _, _, _, _, h => by simp [Pth] at h
  | .l _ _, _, _, _, _, h => by simp [Pth] at h
end
end Go.AM
end
/- Addresses of fields and elements; fields and elements: the operations. -/
section
set_option linter.constructorNameAsVariable false
set_option linter.unusedVariables false
set_option linter.unusedSimpArgs false
set_option linter.unnecessarySimpa false
namespace Go.AM
section
variable {P : Program} {F : Nat → Prop} {w0 w : World} {N : Nat} {U : Nat → Prop} {T : Nat → D} {h : Nat → Blk} {ι : Nat → Option (Nat × Nat × Nat)} {a : Act} {Q : Exit → Act → World → Prop} {E : Env} {o : Oper} {nx : Nat} {e : Eff} {M : Wd}
theorem flds_len : ∀ (t : Ty) (o : Nat), (flds t o).length = fct t
  | .p a b, o => by simp [flds, fct, flds_len b (o + a.sz)]
  | .i _, _ | .b, _ | .s, _ | .a _ _, _ | .r _, _ | .u, _ | .l _ _, _ => rfl
theorem run_fieldAt {s : TypeId} {fs : Array Field} {f : Field} {j : Nat} {i : TypeInfo} {ad : Addr} (hu : P.underlying s = some (.struct fs)) (hj : fs[j]? = some f) (hi : P.info? f.type = some i) (hs : i.size ≠ 0) :
    (Instr.fieldAt s (.pointer (some ad)) j).run P w = .ok (.pointer (some (ad.add f.offset))) w := by
  simp [Instr.fieldAt, run_underlying hu, hj, Instr.sureAddr, fieldPlace, sizeOf, typeInfo, hi, hs]
theorem szT_info {t : TypeId} {i : TypeInfo} (hi : P.info? t = some i) : szT P t = i.size := by simp [szT, hi]
theorem fld_key {t : TypeId} {I : TI} {j : Nat} (K : TOk P E) (hI : E.ti t = some I) {bk : Blk} {q q' : List Stp} {off : Nat} (hpb : PB bk q off I.ty) (hq' : fldq I j q = some q') :
    ∃ fs f i u', P.underlying t = some (.struct fs) ∧ fs[j]? = some f ∧ P.info? f.type = some i ∧ i.size ≠ 0 ∧ PB bk q' (off + f.offset) u' ∧ u'.sz = i.size := by
  have hst : ∃ fs, P.underlying t = some (.struct fs) := by
    have h5 := K.ti t I hI
    unfold tiOk at h5
    simp only [Bool.and_eq_true] at h5
    have h5 := h5.2
    cases hu : P.underlying t with
    | none => simp [hu] at h5
    | some d =>
      unfold fldq at hq'
      cases hty2 : I.ty with
      | p a b => rw [hu, hty2] at h5; cases d <;> simp at h5; exact ⟨_, rfl⟩
      | a k n =>
        rw [hu, hty2] at h5
        cases d with
        | struct fs => exact ⟨_, rfl⟩
        | array m ee =>
          simp only [Bool.and_eq_true] at h5
          have : I.fs = [] := by simpa using h5.1.1.1.1.1.1.1
          rw [hty2] at hq'
          simp [this] at hq'
        | _ => simp at h5
      | _ => simp [hty2] at hq'
  obtain ⟨fs, hfs⟩ := hst
  rcases tok_fields K hI hfs with ⟨ta, tb, ety, hmap, hpos⟩ | ⟨k, n, ety, hmap, hpos⟩
  · unfold fldq at hq'
    rw [ety] at hq'
    simp only at hq'
    split at hq'
    · rename_i hj
      simp at hq'; subst hq'
      have hlt : j < (flds (.p ta tb) 0).length := by rw [flds_len]; exact hj
      have hlt2 : j < fs.toList.length := by rw [← hmap] at hlt; simpa using hlt
      have hf : fs.toList[j]? = some fs.toList[j] := List.getElem?_eq_getElem hlt2
      have hx : (flds (.p ta tb) 0)[j]? = some (fs.toList[j].offset, szT P fs.toList[j].type, aggT P fs.toList[j].type) := by rw [← hmap]; simp [hf]
      obtain ⟨u', h1, h2, h3, h4⟩ := flds_pth _ 0 j _ hx
      obtain ⟨i, d, hi, hd⟩ := tok_known K hI hfs (f := fs.toList[j]) (List.getElem_mem hlt2)
      have hp0 := hpos _ (List.mem_of_getElem? hx)
      refine ⟨fs, fs.toList[j], i, u', hfs, by rw [← Array.getElem?_toList]; exact hf, hi, by rw [szT_info hi] at hp0; simp at hp0; omega, ?_, by rw [h3, szT_info hi]⟩
      exact pb_app hpb (by rw [ety]; simpa using h2) (by rw [ety]; simp)
    · cases hq'
  · unfold fldq at hq'
    rw [ety] at hq'
    simp only at hq'
    split at hq'
    · rename_i fo m hfo
      simp at hq'; subst hq'
      have hlt : j < I.fs.length := (List.getElem?_eq_some_iff.1 hfo).1
      have hlt2 : j < fs.toList.length := by
        have := congrArg List.length hmap
        simp at this
        simp; omega
      have hf : fs.toList[j]? = some fs.toList[j] := List.getElem?_eq_getElem hlt2
      have hx : (fs.toList[j].offset, szT P fs.toList[j].type, aggT P fs.toList[j].type) = (fo, m.getD 1, m.isSome) := by
        have h1 := congrArg (·[j]?) hmap
        simp only [List.getElem?_map, hf, hfo, Option.map_some, Option.some.injEq] at h1
        exact h1
      simp only [Prod.mk.injEq] at hx
      obtain ⟨i, d, hi, hd⟩ := tok_known K hI hfs (f := fs.toList[j]) (List.getElem_mem hlt2)
      have hp0 := hpos _ (List.mem_of_getElem? hfo)
      refine ⟨fs, fs.toList[j], i, subT k m, hfs, by rw [← Array.getElem?_toList]; exact hf, hi, by rw [← szT_info hi, hx.2.1]; exact Nat.ne_of_gt hp0.1, ?_, by rw [← szT_info hi, hx.2.1]; cases m <;> rfl⟩
      rw [hx.1]
      rw [ety] at hpb
      refine pb_into hpb hp0.2 ?_
      cases (lastO q).getD none <;> cases fo <;> simp [addl]
    · cases hq'
theorem ok_fieldAddr {t : TypeId} {x : Operand} {j : Nat} (K : TOk P E) (ho : o.op = .fieldAddr t x j) : Ok P E o := by
  intro F w0 w N U T h ι a Q nx e R he _
  simp only [exo, ho] at he
  split at he
  · rename_i b q I hp hI
    split at he
    · rename_i hty
      split at he
      · rename_i q' hq'
        obtain rfl : (D.ip b q', [], nx) = e := he
        obtain ⟨hU, g, o', c, off, u, hι, hv, hpb⟩ := dr_ptr (dr_ev R x) hp
        have hu' := pb_ty hpb hty
        subst hu'
        obtain ⟨fs, f, i, u', hfs, hf, hi, hs, hpb', _⟩ := fld_key K hI hpb hq'
        refine wp_val (v := .pointer (some ⟨g, o' + (off + f.offset), none⟩)) R ?_ (dr_ip hU hι hpb')
        have := run_fieldAt (P := P) (w := w) (ad := ⟨g, o' + off, none⟩) hfs hf hi hs
        rw [Addr.add_mid] at this
        simp [execOp, ho, hv, Sem.run_bind, this, Nat.add_assoc]
      · exact he.elim
    · exact he.elim
  · exact he.elim
theorem one_agg {v : Value} (h : v.oneCell' = true) : AM.isAgg v = false := by cases v <;> simp_all [AM.isAgg, Value.oneCell']
theorem one_cells {v : Value} (h : v.oneCell' = true) : v.cells = #[v] := by cases v <;> simp_all [Value.cells, Value.oneCell']
/-- Every cell is one cell. -/
theorem cs_one : ∀ (t : Ty) (x : t.den) (rs : List Ref) (m : List Value), All2 (CR M) (cs t x rs) m → ∀ v ∈ m, v.oneCell' = true := by
  have key : ∀ (l : List CS), (∀ c ∈ l, ∀ x, c = .v x → x.oneCell' = true) → ∀ m, All2 (CR M) l m → ∀ v ∈ m, v.oneCell' = true := by
    intro l
    induction l with
    | nil => intro _ m hm v hv; cases m with | nil => simp at hv | cons _ _ => exact hm.elim
    | cons c l ih =>
      intro hl m hm v hv
      cases m with
      | nil => exact hm.elim
      | cons v' m =>
        rcases List.mem_cons.1 hv with rfl | hv
        · cases c with
          | v x => rw [show v = x from hm.1]; exact hl _ (by simp) x rfl
          | r r => exact hm.1.2
        · exact ih (fun c hc => hl c (by simp [hc])) m hm.2 v hv
  have flat : ∀ (t : Ty) (x : t.den) (rs : List Ref), ∀ c ∈ cs t x rs, ∀ y, c = .v y → y.oneCell' = true := by
    intro t
    induction t with
    | p a b iha ihb =>
      intro x rs c hc
      simp only [cs, List.mem_append] at hc
      rcases hc with hc | hc
      · exact iha _ _ c hc
      · exact ihb _ _ c hc
    | l n t ih =>
      intro (x : List t.den) rs c hc
      have hc' : c ∈ x.flatMap (fun y => cs t y []) := hc
      obtain ⟨y, _, hy⟩ := List.mem_flatMap.1 hc'
      exact ih _ _ c hy
    | a k n => intro (x : List Int) rs c hc y hy; subst hy; simp [cs] at hc; obtain ⟨_, _, rfl⟩ := hc; rfl
    | i k => intro x rs c hc y hy; subst hy; simp [cs] at hc; subst hc; rfl
    | b => intro x rs c hc y hy; subst hy; simp [cs] at hc; subst hc; rfl
    | s => intro x rs c hc y hy; subst hy; simp [cs] at hc; subst hc; rfl
    | r k => intro x rs c hc y hy; subst hy; simp [cs] at hc
    | u => intro x rs c hc; simp [cs] at hc
  intro t x rs
  exact key _ (flat t x rs)
theorem ag_sz {u : Ty} (h : u.ag = false) : u.sz = 1 := by cases u <;> first | rfl | simp [Ty.ag] at h
/-- A value out of its cells. -/
theorem dr_mkT {t : TypeId} {u : Ty} (ha : aggT P t = u.ag) {mid : List Value} {y : u.den} {rs : List Ref} (hm : All2 (CR M) (cs u y rs) mid) (hw : wf u y) (hr : rs.length = u.nr) : DR M (.v u y rs) (mkT P t mid) := by
  have h1 := cs_one u y rs mid hm
  have hl := hm.length
  rw [cs_len u y rs hw] at hl
  unfold mkT
  cases hag : aggT P t with
  | true => exact ⟨hw, hr, by rw [if_pos rfl, ← ha, hag]; rfl, by simpa [Value.cells] using hm⟩
  | false =>
    have hl1 : mid.length = 1 := by
      rw [← hl]
      rw [hag] at ha
      exact ag_sz ha.symm
    match mid, hl1 with
    | [v], _ =>
      have hv := h1 v (by simp)
      refine ⟨hw, hr, ?_, ?_⟩
      · rw [← ha, hag]; exact one_agg hv
      · have e : (if (false : Bool) = true then Value.agg [v].toArray else [v].headD undef) = v := by simp
        rw [e, one_cells hv]
        exact hm
/-- A part of data. -/
theorem run_part2 {t : TypeId} {u : Ty} {i : TypeInfo} {d : TypeDesc} (hi : P.info? t = some i) (hd : P.underlying t = some d) (hs : szT P t = u.sz) (ha : aggT P t = u.ag) {cs' : Array Value} {off : Nat} {pre mid post : List Value} {y : u.den} {rs : List Ref}
    (hc : cs'.toList = pre ++ (mid ++ post)) (hp : pre.length = off) (hm : All2 (CR M) (cs u y rs) mid) (hw : wf u y) (hr : rs.length = u.nr) : ∃ v, (part t cs' off).run P w = .ok v w ∧ DR M (.v u y rs) v := by
  have hl := hm.length
  rw [cs_len u y rs hw] at hl
  have h1' : aggT P t = false → mid.length = 1 := fun hf => by
    rw [← hl]
    rw [hf] at ha
    exact ag_sz ha.symm
  exact ⟨_, run_part (P := P) (w := w) hd hi cs' off pre mid post hc hp (by rw [← hl, hs]) h1', dr_mkT ha hm hw hr⟩
/-- Cells of a part. -/
theorem all2_part {pre mid post : List CS} {l : List CS} {C : List Value} (hl : l = pre ++ (mid ++ post)) (hC : All2 (CR M) l C) : ∃ P1 M1 Q1, C = P1 ++ (M1 ++ Q1) ∧ P1.length = pre.length ∧ All2 (CR M) pre P1 ∧ All2 (CR M) mid M1 ∧ All2 (CR M) post Q1 := by
  subst hl
  obtain ⟨a1, a2, rfl, h1, h2⟩ := hC.split
  obtain ⟨b1, b2, rfl, h3, h4⟩ := h2.split
  exact ⟨a1, b1, b2, rfl, h1.length.symm, h1, h3, h4⟩
theorem run_field {t : TypeId} {fs : Array Field} {f : Field} {j : Nat} {C : Array Value} {v : Value} (hfs : P.underlying t = some (.struct fs)) (hf : fs[j]? = some f) (hr : (part f.type C f.offset).run P w = .ok v w) : (Instr.field t (.agg C) j).run P w = .ok v w := by
  simp [Instr.field, run_underlying hfs, hf, asAgg, hr]
theorem ok_field {t : TypeId} {x : Operand} {j : Nat} (K : TOk P E) (ho : o.op = .field t x j) : Ok P E o := by
  intro F w0 w N U T h ι a Q nx e R he _
  simp only [exo, ho] at he
  obtain ⟨d, hd, rfl⟩ := to_ofo he
  have hx := dr_ev R x
  unfold fldD at hd
  split at hd
  · rename_i ta tb y rs e1
    rw [e1] at hx
    split at hd
    · rename_i ht
      obtain ⟨I, hI, hty⟩ := Env.ty_some ht
      obtain ⟨fs, hfs⟩ := tok_struct K hI hty
      obtain ⟨hw, hr, hag, hC⟩ := hx
      rcases tok_fields K hI hfs with ⟨ta', tb', ety, hmap, hpos⟩ | ⟨k, n, ety, _, _⟩
      · rw [hty] at ety
        simp only [Ty.p.injEq] at ety
        obtain ⟨rfl, rfl⟩ := ety
        have hlt : j < (flds (.p ta tb) 0).length := by
          have : ∃ d, look (.p ta tb) y rs [.f j] = some d := ⟨d, hd⟩
          have key : ∀ (t : Ty) (y : t.den) (rs : List Ref) (j : Nat) (d : D), look t y rs [.f j] = some d → j < fct t := by
            intro t
            induction t with
            | p a b _ ihb =>
              intro y rs j d h
              cases j with
              | zero => simp [fct]
              | succ j => simp only [look] at h; have := ihb _ _ _ _ h; simp only [fct]; omega
            | _ => intro y rs j d h; simp [look] at h
          rw [flds_len]; exact key _ _ _ _ _ hd
        have hlt2 : j < fs.toList.length := by rw [← hmap] at hlt; simpa using hlt
        have hf : fs.toList[j]? = some fs.toList[j] := List.getElem?_eq_getElem hlt2
        have hxx : (flds (.p ta tb) 0)[j]? = some (fs.toList[j].offset, szT P fs.toList[j].type, aggT P fs.toList[j].type) := by rw [← hmap]; simp [hf]
        obtain ⟨u', h1, h2, h3, h4⟩ := flds_pth _ 0 j _ hxx
        obtain ⟨i, dd, hi, hdd⟩ := tok_known K hI hfs (f := fs.toList[j]) (List.getElem_mem hlt2)
        obtain ⟨z, rs', rfl, wz, rz, pre, post, hcs, hpre⟩ := look_ok _ _ _ _ _ _ _ hw hr h2 hd
        obtain ⟨P1, M1, Q1, hCC, l1, _, hM, _⟩ := all2_part hcs hC
        cases hv : a.eval x with
        | agg C =>
          rw [hv] at hCC
          obtain ⟨v, r1, r2⟩ := run_part2 (P := P) (w := w) (M := ⟨U, h, ι⟩) (cs' := C) (off := fs.toList[j].offset) hi hdd h3.symm h4.symm (by simpa [Value.cells] using hCC) (by rw [l1, hpre]; simp) hM wz rz
          refine wp_val R ?_ r2
          have hf' : fs[j]? = some fs.toList[j] := by rw [← Array.getElem?_toList]; exact hf
          have rf := run_field hfs hf' r1
          simp only [execOp, ho, hv]
          exact run_v rf
        | _ => rw [hv] at hag; simp [AM.isAgg, Ty.ag] at hag
      · rw [hty] at ety; cases ety
    · cases hd
  · rename_i k n y rs e1
    rw [e1] at hx
    split at hd
    · rename_i I hI
      split at hd
      · rename_i hty
        split at hd
        · rename_i fo m hfo
          simp at hd; subst hd
          have hst : ∃ fs, P.underlying t = some (.struct fs) := by
            have h5 := K.ti t I hI
            unfold tiOk at h5
            simp only [Bool.and_eq_true] at h5
            have h5 := h5.2
            cases hu : P.underlying t with
            | none => simp [hu] at h5
            | some d =>
              rw [hu, hty] at h5
              cases d with
              | struct fs => exact ⟨_, rfl⟩
              | array m ee =>
                simp only [Bool.and_eq_true] at h5
                have : I.fs = [] := by simpa using h5.1.1.1.1.1.1.1
                simp [this] at hfo
              | _ => simp at h5
          obtain ⟨fs, hfs⟩ := hst
          obtain ⟨hw, hr, hag, hC⟩ := hx
          rcases tok_fields K hI hfs with ⟨_, _, ety, _, _⟩ | ⟨k', n', ety, hmap, hpos⟩
          · rw [hty] at ety; cases ety
          · rw [hty] at ety
            simp only [Ty.a.injEq] at ety
            obtain ⟨rfl, rfl⟩ := ety
            have hlt : j < I.fs.length := (List.getElem?_eq_some_iff.1 hfo).1
            have hlt2 : j < fs.toList.length := by
              have := congrArg List.length hmap
              simp at this
              simp; omega
            have hf : fs.toList[j]? = some fs.toList[j] := List.getElem?_eq_getElem hlt2
            have hxx : (fs.toList[j].offset, szT P fs.toList[j].type, aggT P fs.toList[j].type) = (fo, m.getD 1, m.isSome) := by
              have h1 := congrArg (·[j]?) hmap
              simp only [List.getElem?_map, hf, hfo, Option.map_some, Option.some.injEq] at h1
              exact h1
            simp only [Prod.mk.injEq] at hxx
            obtain ⟨i, dd, hi, hdd⟩ := tok_known K hI hfs (f := fs.toList[j]) (List.getElem_mem hlt2)
            have hp0 := hpos _ (List.mem_of_getElem? hfo)
            have h2 : Pth (.a k n) [.o (addl none fo) m] fo (subT k m) := by
              have : (addl none fo).getD 0 = fo := by cases fo <;> rfl
              cases m with
              | none => exact ⟨by rw [this]; have := hp0.2; simp at this; omega, this.symm, rfl⟩
              | some m => exact ⟨by rw [this]; have := hp0.2; simp at this; omega, this.symm, rfl⟩
            obtain ⟨z, rs', hdz, wz, rz, pre, post, hcs, hpre⟩ := look_ok _ _ _ _ _ _ (rowAt k y (addl none fo) m) hw hr h2 rfl
            rw [hdz]
            obtain ⟨P1, M1, Q1, hCC, l1, _, hM, _⟩ := all2_part hcs hC
            cases hv : a.eval x with
            | agg C =>
              rw [hv] at hCC
              obtain ⟨v, r1, r2⟩ := run_part2 (P := P) (w := w) (M := ⟨U, h, ι⟩) (cs' := C) (off := fs.toList[j].offset) (u := subT k m) hi hdd (by rw [hxx.2.1]; cases m <;> rfl) (by rw [hxx.2.2]; cases m <;> rfl) (by simpa [Value.cells] using hCC) (by rw [l1, hpre, hxx.1]) hM wz rz
              refine wp_val R ?_ r2
              have hf' : fs[j]? = some fs.toList[j] := by rw [← Array.getElem?_toList]; exact hf
              have rf := run_field hfs hf' r1
              simp only [execOp, ho, hv]
              exact run_v rf
            | _ => rw [hv] at hag; simp [AM.isAgg, Ty.ag] at hag
        · cases hd
      · cases hd
    · cases hd
  · cases hd
end
end Go.AM
end
/- Elements and their addresses. -/
section
set_option linter.constructorNameAsVariable false
set_option linter.unusedVariables false
set_option linter.unusedSimpArgs false
set_option linter.unnecessarySimpa false
namespace Go.AM
section
variable {P : Program} {F : Nat → Prop} {w0 w : World} {N : Nat} {U : Nat → Prop} {T : Nat → D} {h : Nat → Blk} {ι : Nat → Option (Nat × Nat × Nat)} {a : Act} {Q : Exit → Act → World → Prop} {E : Env} {o : Oper} {nx : Nat} {e : Eff} {M : Wd}
theorem inr_iff {i n : Int} (h : inr i n = true) : 0 ≤ i ∧ i < n := by unfold inr at h; simpa using h
theorem inq_iff {i n : Int} (h : inq i n = true) : 0 ≤ i ∧ i ≤ n := by unfold inq at h; simpa using h
theorem addo_eq (o : Option Nat) (n : Nat) : addo o n = o.getD 0 + n := by cases o <;> simp [addo]
theorem tok_slice (K : TOk P E) {t : TypeId} {I : TI} (hI : E.ti t = some I) (hty : I.ty = .r .s) :
    P.underlying t = some (.slice I.e) ∧ I.et.nr = 0 ∧ 0 < I.et.sz ∧ szT P I.e = I.et.sz ∧ aggT P I.e = I.et.ag ∧ (∃ i d, P.info? I.e = some i ∧ P.underlying I.e = some d ∧ i.size = I.et.sz ∧ 0 < i.bytes ∧ i.bytes ≤ 16384) ∧ zeroOk P I.e I.et = true := by
  have h5 := K.ti t I hI
  unfold tiOk at h5
  simp only [Bool.and_eq_true] at h5
  have h5 := h5.2
  rw [hty] at h5
  cases hu : P.underlying t with
  | none => simp [hu] at h5
  | some d =>
    rw [hu] at h5
    cases d with
    | slice el =>
      simp only [Bool.and_eq_true, beq_iff_eq, decide_eq_true_eq] at h5
      obtain ⟨⟨⟨⟨⟨⟨⟨h1, h2⟩, h3⟩, h4⟩, h5⟩, h6⟩, h7⟩, h8⟩ := h5
      subst h1
      unfold known at h5
      simp only [Bool.and_eq_true] at h5
      obtain ⟨i, hi⟩ := Option.isSome_iff_exists.1 h5.1
      obtain ⟨d, hd⟩ := Option.isSome_iff_exists.1 h5.2
      have hz : i.size = I.et.sz := by
        unfold zeroOk at h7
        simp only [hi, Bool.and_eq_true] at h7
        simpa using h7.1.1
      simp only [hi, Bool.and_eq_true, decide_eq_true_eq] at h8
      exact ⟨rfl, h2, h3, by rw [szT_info hi, hz], h6, ⟨i, d, hi, hd, hz, h8.1, h8.2⟩, h7⟩
    | _ => simp at h5
/-- A slice: where it lies, if it holds anything. -/
theorem dr_slc {d : D} {v : Value} {b n : Nat} {off : Option Nat} (hd : DR M d v) (hs : slc M.h d = some (b, off, n)) (hr : rowTy (M.h b) ≠ none) :
    M.U b ∧ ∃ e t l own, M.h b = .w e t l own ∧ off.getD 0 + n ≤ l.length ∧ ∃ A c, v = .slice A n c ∧ n ≤ c ∧ AtR M b (off.getD 0) n t.sz A c := by
  unfold slc at hs
  split at hs
  · rename_i b'
    simp at hs; obtain ⟨rfl, rfl, rfl⟩ := hs
    obtain ⟨r, e, hrr⟩ := dr_r hd
    simp at e; subst e
    obtain ⟨hu, hw⟩ := hrr
    cases hb : M.h b' with
    | w e t l own =>
      refine ⟨hu, e, t, l, own, rfl, by simp [rlen], ?_⟩
      have := hw 1 t l.length (by simp [hb, shp])
      cases hi : M.ι b' with
      | none =>
        rw [hi] at this
        obtain ⟨rfl, h0⟩ := this
        exact ⟨none, 0, by simp [rlen, h0], by simp [rlen, h0], .inl (by simp [rlen, h0])⟩
      | some p =>
        obtain ⟨g, o, c⟩ := p
        rw [hi] at this
        obtain ⟨rfl, hc⟩ := this
        exact ⟨some ⟨g, o, none⟩, c, by simp [rlen], by simpa [rlen] using hc, .inr ⟨g, o, c, o, hi, rfl, by simp⟩⟩
    | _ => simp [hb, rowTy] at hr
  · rename_i b' off' n'
    split at hs
    · rename_i e t l own hb
      simp at hs; obtain ⟨rfl, rfl, rfl⟩ := hs
      obtain ⟨hu, h⟩ := hd
      obtain ⟨_, h1, A, c, h2, h3, h4⟩ := h 1 t l.length (by simp [hb, shp])
      exact ⟨hu, e, t, l, own, hb, h1, A, c, h2, h3, h4⟩
    · cases hs
  · cases hs
theorem ok_indexAddr {t : TypeId} {x y : Operand} (K : TOk P E) (ho : o.op = .indexAddr t x y) : Ok P E o := by
  intro F w0 w N U T h ι a Q nx e R he _
  simp only [exo, ho] at he
  unfold indexAddrD at he
  split at he
  case h_2 => exact he.elim
  rename_i k i _ ei
  have hi := dr_ev R y
  rw [ei] at hi
  obtain ⟨hvi, _⟩ := dr_i hi
  split at he
  · rename_i p b off n hs
    split at he
    case h_2 => exact he.elim
    rename_i I hI
    split at he
    case isFalse => exact he.elim
    rename_i hc
    obtain ⟨hty, hrow⟩ := hc
    obtain ⟨hin, he⟩ := to_chk he
    obtain rfl : (D.ip b [.i (addo off i.toNat)], [], nx) = e := he
    obtain ⟨h0, h1⟩ := inr_iff hin
    obtain ⟨hU, ee, tt, l, own, hb, hle, A, c, hv, hnc, hA⟩ := dr_slc (M := ⟨U, h, ι⟩) (dr_ev R x) hs (by show rowTy (h b) ≠ none; rw [hrow]; simp)
    have hb' : h b = .w ee tt l own := hb
    obtain ⟨hu, hnr, hsz, hsT, hag, ⟨ti, td, hti, htd, hts, _, _⟩, _⟩ := tok_slice K hI hty
    have htt : tt = I.et := by rw [hb'] at hrow; simpa [rowTy] using hrow
    subst htt
    rcases hA.old with rfl | ⟨g, o', cap, hι, rfl⟩
    · omega
    · have hj : addo off i.toNat < l.length := by rw [addo_eq]; omega
      refine wp_val (v := .pointer (some ⟨g, o' + (addo off i.toNat) * I.et.sz, none⟩)) R ?_ (dr_ip (M := ⟨U, h, ι⟩) hU hι (u := I.et) ?_)
      · have : (Instr.indexAt t (a.eval x) (a.eval y)).run P w = .ok (.pointer (some ⟨g, o' + (addo off i.toNat) * I.et.sz, none⟩)) w := by
          rw [hv, hvi]
          have hlt : 0 ≤ i ∧ i < (n : Int) := ⟨h0, h1⟩
          simp [Instr.indexAt, asIntOf, run_underlying hu, hlt, sizeOf, typeInfo, hti, hts, Addr.add_mid, addo_eq, Nat.add_mul, Nat.add_assoc]
        simp only [execOp, ho]
        exact run_v this
      · show PB (h b) _ _ _
        rw [hb']
        exact ⟨addo off i.toNat, [], 0, rfl, hj, by simp, by cases I.et <;> exact ⟨rfl, rfl⟩⟩
  · split at he
    case h_2 => exact he.elim
    rename_i b q I hp hI
    split at he
    case isFalse => exact he.elim
    rename_i hty
    split at he
    case h_2 => exact he.elim
    rename_i q' hq'
    obtain ⟨hin, he⟩ := to_chk he
    obtain rfl : (D.ip b q', [], nx) = e := he
    obtain ⟨h0, h1⟩ := inr_iff hin
    obtain ⟨hU, g, o', c, off, u, hι, hv, hpb⟩ := dr_ptr (dr_ev R x) hp
    have hu' := pb_ty hpb hty
    subst hu'
    have h5 := K.ti t I hI
    unfold tiOk at h5
    simp only [Bool.and_eq_true] at h5
    have h5 := h5.2
    have fin : ∀ (m : Nat) (el : TypeId) (ti : TypeInfo) (off2 : Nat) (u2 : Ty), P.underlying t = some (.array m el) → I.n = m → P.info? el = some ti → off2 = i.toNat * ti.size → PB (h b) q' (off + off2) u2 →
        Goes P o a w F w0 N U T h ι (.ip b q', [], nx) Q := by
      intro m el ti off2 u2 hu hm hti hoff hpb2
      refine wp_val (v := .pointer (some ⟨g, o' + (off + off2), none⟩)) R ?_ (dr_ip (M := ⟨U, h, ι⟩) hU hι hpb2)
      have : (Instr.indexAt t (a.eval x) (a.eval y)).run P w = .ok (.pointer (some ⟨g, o' + (off + off2), none⟩)) w := by
        rw [hv, hvi]
        have hlt : 0 ≤ i ∧ i < (m : Int) := ⟨h0, by rw [← hm]; exact h1⟩
        simp [Instr.indexAt, asIntOf, run_underlying hu, hlt, sizeOf, typeInfo, hti, Addr.add_mid, Instr.sureAddr, hoff, Nat.add_assoc]
      simp only [execOp, ho]
      exact run_v this
    unfold elq at hq'
    cases hty2 : I.ty with
    | l n u =>
      rw [hty2] at hq' h5
      simp at hq'; subst hq'
      cases hu : P.underlying t with
      | none => simp [hu] at h5
      | some d =>
        rw [hu] at h5
        cases d with
        | array m el =>
          simp only [Bool.and_eq_true, beq_iff_eq, decide_eq_true_eq] at h5
          obtain ⟨⟨⟨⟨⟨g1, g2⟩, g3⟩, g4⟩, g5⟩, g6⟩ := h5
          unfold known at g3
          simp only [Bool.and_eq_true] at g3
          obtain ⟨ti, hti⟩ := Option.isSome_iff_exists.1 g3.1
          refine fin m el ti (i.toNat * u.sz) u hu g1 hti (by rw [← g4, szT_info hti]) (pb_app hpb (off' := i.toNat * u.sz) (u' := u) ?_ (by rw [hty2]; simp))
          rw [hty2]
          exact ⟨by omega, 0, by simp, by cases u <;> exact ⟨rfl, rfl⟩⟩
        | _ => simp at h5
    | a k n =>
      rw [hty2] at hq' h5
      simp at hq'; subst hq'
      cases hu : P.underlying t with
      | none => simp [hu] at h5
      | some d =>
        rw [hu] at h5
        cases d with
        | array m el =>
          simp only [Bool.and_eq_true, beq_iff_eq, decide_eq_true_eq] at h5
          obtain ⟨⟨⟨⟨⟨⟨⟨g0, g1⟩, g2⟩, g3⟩, g4⟩, g5⟩, g6⟩, g7⟩ := h5
          unfold known at g2
          simp only [Bool.and_eq_true] at g2
          obtain ⟨ti, hti⟩ := Option.isSome_iff_exists.1 g2.1
          have hsz : ti.size = I.esz := by rw [← g3, szT_info hti]
          have hlo : esc I i.toNat = i.toNat * I.esz := by
            unfold esc
            cases hel : I.el with
            | none => rw [hel] at g4; simp at g4; simp [g4]
            | some _ => rfl
          have hlt : i.toNat < m := by omega
          refine fin m el ti (i.toNat * I.esz) (subT k I.el) hu g1 hti (by rw [hsz]) (pb_into (k := k) (n := n) (by rw [← hty2]; exact hpb) ?_ ?_)
          · rw [← g4, g7]
            calc i.toNat * I.esz + I.esz = (i.toNat + 1) * I.esz := by rw [Nat.add_mul]; omega
              _ ≤ m * I.esz := Nat.mul_le_mul_right _ hlt
          · rw [hlo]; simp [addo_eq]
        | struct fs =>
          simp only [Bool.and_eq_true, beq_iff_eq] at h5
          have h0' := h5.1.1.1
          rw [h0'] at h1
          omega
        | _ => simp at h5
    | _ => rw [hty2] at hq'; simp at hq'
end
end Go.AM
end
/- Elements of arrays and texts; parts of slices and texts. -/
section
set_option linter.constructorNameAsVariable false
set_option linter.unusedVariables false
set_option linter.unusedSimpArgs false
set_option linter.unnecessarySimpa false
namespace Go.AM
section
variable {P : Program} {F : Nat → Prop} {w0 w : World} {N : Nat} {U : Nat → Prop} {T : Nat → D} {h : Nat → Blk} {ι : Nat → Option (Nat × Nat × Nat)} {a : Act} {Q : Exit → Act → World → Prop} {E : Env} {o : Oper} {nx : Nat} {e : Eff} {M : Wd}
theorem tok_string (K : TOk P E) {t : TypeId} (ht : E.ty t = some .s) : P.underlying t = some .string := by
  obtain ⟨I, hI, hty⟩ := Env.ty_some ht
  have h5 := K.ti t I hI
  unfold tiOk at h5
  simp only [Bool.and_eq_true] at h5
  have h5 := h5.2
  rw [hty] at h5
  cases hu : P.underlying t with
  | none => simp [hu] at h5
  | some d => rw [hu] at h5; cases d <;> simp at h5; rfl
theorem tok_array (K : TOk P E) {t : TypeId} {I : TI} (hI : E.ti t = some I) {n : Nat} {u : Ty} (hty : I.ty = .l n u) : ∃ el i d, P.underlying t = some (.array n el) ∧ I.n = n ∧ P.info? el = some i ∧ P.underlying el = some d ∧ szT P el = u.sz ∧ aggT P el = u.ag := by
  have h5 := K.ti t I hI
  unfold tiOk at h5
  simp only [Bool.and_eq_true] at h5
  have h5 := h5.2
  rw [hty] at h5
  cases hu : P.underlying t with
  | none => simp [hu] at h5
  | some d =>
    rw [hu] at h5
    cases d with
    | array m el =>
      simp only [Bool.and_eq_true, beq_iff_eq, decide_eq_true_eq] at h5
      obtain ⟨⟨⟨⟨⟨g1, g2⟩, g3⟩, g4⟩, g5⟩, g6⟩ := h5
      unfold known at g3
      simp only [Bool.and_eq_true] at g3
      obtain ⟨i, hi⟩ := Option.isSome_iff_exists.1 g3.1
      obtain ⟨d, hd⟩ := Option.isSome_iff_exists.1 g3.2
      subst g2
      exact ⟨el, i, d, rfl, g1, hi, hd, g4, g5⟩
    | _ => simp at h5
theorem tok_arrayA (K : TOk P E) {t : TypeId} {I : TI} (hI : E.ti t = some I) {n : Nat} {k : IntKind} (hty : I.ty = .a k n) (hn : I.n ≠ 0) : ∃ el i d, P.underlying t = some (.array I.n el) ∧ P.info? el = some i ∧ P.underlying el = some d ∧ szT P el = I.esz ∧ I.esz = I.el.getD 1 ∧ aggT P el = I.el.isSome ∧ n = I.n * I.esz := by
  have h5 := K.ti t I hI
  unfold tiOk at h5
  simp only [Bool.and_eq_true] at h5
  have h5 := h5.2
  rw [hty] at h5
  cases hu : P.underlying t with
  | none => simp [hu] at h5
  | some d =>
    rw [hu] at h5
    cases d with
    | array m el =>
      simp only [Bool.and_eq_true, beq_iff_eq, decide_eq_true_eq] at h5
      obtain ⟨⟨⟨⟨⟨⟨⟨g0, g1⟩, g2⟩, g3⟩, g4⟩, g5⟩, g6⟩, g7⟩ := h5
      unfold known at g2
      simp only [Bool.and_eq_true] at g2
      obtain ⟨i, hi⟩ := Option.isSome_iff_exists.1 g2.1
      obtain ⟨d, hd⟩ := Option.isSome_iff_exists.1 g2.2
      subst g1
      exact ⟨el, i, d, rfl, hi, hd, g3, g4, g5, g7⟩
    | struct fs =>
      simp only [Bool.and_eq_true, beq_iff_eq] at h5
      exact absurd h5.1.1.1 hn
    | _ => simp at h5
theorem esc_eq (I : TI) (k : Nat) (h : I.esz = I.el.getD 1) : esc I k = k * I.esz := by
  unfold esc
  cases hel : I.el with
  | none => rw [hel] at h; simp at h; simp [h]
  | some _ => rfl
theorem run_index_agg {t : TypeId} {n : Nat} {el : TypeId} {i : TypeInfo} {C : Array Value} {k : IntKind} {j : Int} {v : Value} (hu : P.underlying t = some (.array n el)) (hi : P.info? el = some i) (h0 : 0 ≤ j) (h1 : j < n) (hr : (part el C (j.toNat * i.size)).run P w = .ok v w) :
    (Instr.index t (.agg C) (.int k j)).run P w = .ok v w := by
  simp [Instr.index, asIntOf, run_underlying hu, h0, h1, sizeOf, typeInfo, hi, hr]
theorem ok_index {t : TypeId} {x y : Operand} (K : TOk P E) (ho : o.op = .index t x y) : Ok P E o := by
  intro F w0 w N U T h ι a Q nx e R he _
  simp only [exo, ho] at he
  unfold indexD at he
  split at he
  case h_2 => exact he.elim
  rename_i k i _ ei
  have hi := dr_ev R y
  rw [ei] at hi
  obtain ⟨hvi, _⟩ := dr_i hi
  have hx := dr_ev R x
  split at he
  · rename_i s _ ex
    rw [ex] at hx
    obtain ⟨hvx, _⟩ := dr_s hx
    split at he
    case isFalse => exact he.elim
    rename_i ht
    obtain ⟨hin, he⟩ := to_chk he
    obtain rfl : (D.v (.i .u8) (byt s i) [], [], nx) = e := he
    obtain ⟨h0, h1⟩ := inr_iff hin
    refine wp_val (v := .int .u8 (byt s i)) R ?_ (dri _ _)
    have hlt : i.toNat < ByteArray.size s := by unfold len at h1; omega
    have hg : (s : ByteArray)[i.toNat]? = some (ByteArray.get! s i.toNat) := by
      rw [getElem?_pos s i.toNat hlt]
      congr 1
      show s.data[i.toNat]'hlt = s.data[i.toNat]!
      exact (getElem!_pos s.data i.toNat hlt).symm
    have : (Instr.index t (a.eval x) (a.eval y)).run P w = .ok (.int .u8 (byt s i)) w := by
      rw [hvx, hvi]
      unfold byt
      simp [Instr.index, asIntOf, run_underlying (tok_string K ht), h0, hg]
    simp only [execOp, ho]
    exact run_v this
  · rename_i n u xs rs ex
    rw [ex] at hx
    split at he
    case isFalse => exact he.elim
    rename_i ht
    obtain ⟨hin, he⟩ := to_chk he
    have he' : (D.v u (xs.getD i.toNat (dfl u)) [], [], nx) = e := he
    subst he'
    obtain ⟨h0, h1⟩ := inr_iff hin
    obtain ⟨I, hI, hty⟩ := Env.ty_some ht
    obtain ⟨el, ti, td, hu, hn, hti, htd, hs, hag⟩ := tok_array K hI hty
    obtain ⟨hw, hr, hagx, hC⟩ := hx
    have hp : Pth (.l n u) [.i i.toNat] (i.toNat * u.sz) u := ⟨by omega, 0, by simp, by cases u <;> exact ⟨rfl, rfl⟩⟩
    obtain ⟨z, rs', hdz, wz, rz, pre, post, hcs, hpre⟩ := look_ok (.l n u) xs rs [.i i.toNat] _ _ (D.v u (xs.getD i.toNat (dfl u)) []) hw hr hp (by cases u <;> rfl)
    rw [hdz]
    obtain ⟨P1, M1, Q1, hCC, l1, _, hM, _⟩ := all2_part hcs hC
    cases hv : a.eval x with
    | agg C =>
      rw [hv] at hCC
      obtain ⟨v, r1, r2⟩ := run_part2 (P := P) (w := w) (M := ⟨U, h, ι⟩) (cs' := C) (off := i.toNat * u.sz) hti htd hs hag (by simpa [Value.cells] using hCC) (by rw [l1, hpre]) hM wz rz
      refine wp_val R ?_ r2
      have hsz : ti.size = u.sz := by rw [← hs, szT_info hti]
      have rr := run_index_agg (P := P) (w := w) (k := k) (j := i) hu hti h0 h1 (by rw [hsz]; exact r1)
      simp only [execOp, ho, hv, hvi]
      exact run_v rr
    | _ => rw [hv] at hagx; simp [AM.isAgg, Ty.ag] at hagx
  · rename_i k2 n xs rs ex
    rw [ex] at hx
    split at he
    case h_2 => exact he.elim
    rename_i I hI
    split at he
    case isFalse => exact he.elim
    rename_i hty
    obtain ⟨hin, he⟩ := to_chk he
    have he' : (rowAt k2 xs (some (esc I i.toNat)) I.el, [], nx) = e := he
    subst he'
    obtain ⟨h0, h1⟩ := inr_iff hin
    obtain ⟨el, ti, td, hu, hti, htd, hs, hes, hag, hN⟩ := tok_arrayA K hI hty (by omega)
    obtain ⟨hw, hr, hagx, hC⟩ := hx
    have hE := esc_eq I i.toNat hes
    have hlt : i.toNat * I.esz + I.esz ≤ n := by
      rw [hN]
      calc i.toNat * I.esz + I.esz = (i.toNat + 1) * I.esz := by rw [Nat.add_mul]; omega
        _ ≤ I.n * I.esz := Nat.mul_le_mul_right _ (by omega)
    have hp : Pth (.a k2 n) [.o (some (esc I i.toNat)) I.el] (i.toNat * I.esz) (subT k2 I.el) := by
      rw [hE]
      cases hel : I.el with
      | none => rw [hel] at hes; simp at hes; exact ⟨by simp; omega, rfl, rfl⟩
      | some m => rw [hel] at hes; simp at hes; exact ⟨by simp; omega, rfl, rfl⟩
    obtain ⟨z, rs', hdz, wz, rz, pre, post, hcs, hpre⟩ := look_ok (.a k2 n) xs rs _ _ _ (rowAt k2 xs (some (esc I i.toNat)) I.el) hw hr hp rfl
    rw [hdz]
    obtain ⟨P1, M1, Q1, hCC, l1, _, hM, _⟩ := all2_part hcs hC
    cases hv : a.eval x with
    | agg C =>
      rw [hv] at hCC
      obtain ⟨v, r1, r2⟩ := run_part2 (P := P) (w := w) (M := ⟨U, h, ι⟩) (cs' := C) (off := i.toNat * I.esz) (u := subT k2 I.el) hti htd (by rw [hs, hes]; cases I.el <;> rfl) (by rw [hag]; cases I.el <;> rfl) (by simpa [Value.cells] using hCC) (by rw [l1, hpre]) hM wz rz
      refine wp_val R ?_ r2
      have hsz : ti.size = I.esz := by rw [← hs, szT_info hti]
      have rr := run_index_agg (P := P) (w := w) (k := k) (j := i) hu hti h0 h1 (by rw [hsz]; exact r1)
      simp only [execOp, ho, hv, hvi]
      exact run_v rr
    | _ => rw [hv] at hagx; simp [AM.isAgg, Ty.ag] at hagx
  · exact he.elim
end
end Go.AM
end
/- Parts of slices and texts. -/
section
set_option linter.constructorNameAsVariable false
set_option linter.unusedVariables false
set_option linter.unusedSimpArgs false
set_option linter.unnecessarySimpa false
namespace Go.AM
section
variable {P : Program} {F : Nat → Prop} {w0 w : World} {N : Nat} {U : Nat → Prop} {T : Nat → D} {h : Nat → Blk} {ι : Nat → Option (Nat × Nat × Nat)} {a : Act} {Q : Exit → Act → World → Prop} {E : Env} {o : Oper} {nx : Nat} {e : Eff} {M : Wd}
def bd (b : Option Int) (n : Nat) : Nat := match b with | none => n | some i => i.toNat
/-- A bound as it is told: none, or an integer. -/
inductive Bd (M : Wd) : Option D → Option Value → Option Int → Prop
  | none : Bd M none none none
  | some (k : IntKind) (n : Int) (rs : List Ref) : Bd M (some (.v (.i k) n rs)) (some (.int k n)) (some n)
theorem to_bound {d : Option D} {v : Option Value} {n : Nat} {k : Option Int → Nat → G Eff} (hd : ∀ x, d = some x → ∃ u, v = some u ∧ DR M x u) (hn : d = none → v = none) (h : (bound d n k).to e) :
    ∃ b, Bd M d v b ∧ (k b (bd b n)).to e := by
  unfold bound at h
  split at h
  · rw [hn rfl]; exact ⟨none, .none, h⟩
  · rename_i kk i rs
    obtain ⟨u, hu, hr⟩ := hd _ rfl
    obtain ⟨rfl, _⟩ := dr_i hr
    rw [hu]; exact ⟨some i, .some kk i rs, h⟩
  · exact h.elim
theorem run_sliceBound {k : IntKind} {i : Int} {y : Nat} {c : BoundsCode} (h0 : 0 ≤ i) (h1 : i ≤ y) : (Instr.sliceBound (.int k i) y c).run P w = .ok i.toNat w := by
  simp [Instr.sliceBound, asIntOf, h0, h1]
def okB (lo hi : Option Int) (n : Int) : Bool := match lo, hi with
  | none, none => true | none, some b => inq b n | some a, none => inq a n | some a, some b => inq b n && inq a b
theorem run_sliceBounds {s : Bool} {n c : Nat} {dl dh : Option D} {vl vh : Option Value} {lo hi : Option Int} (hl : Bd M dl vl lo) (hh : Bd M dh vh hi) (ok : okB lo hi n = true) (hc : n ≤ c) :
    (Instr.sliceBounds s n c vl vh none).run P w = .ok (bd lo 0, bd hi n, c) w ∧
    bd lo 0 ≤ bd hi n ∧ bd hi n ≤ n := by
  cases hl <;> cases hh
  · exact ⟨by simp [Instr.sliceBounds, bd], by simp [bd], by simp [bd]⟩
  · rename_i k b rs
    simp only [okB] at ok
    obtain ⟨h0, h1⟩ := inq_iff ok
    have r : ∀ cd, (Instr.sliceBound (.int k b) c cd).run P w = .ok b.toNat w := fun cd => run_sliceBound h0 (by omega)
    refine ⟨?_, by simp [bd], by simp [bd]; omega⟩
    cases s <;> simp [Instr.sliceBounds, r, bd]
  · rename_i k b rs
    simp only [okB] at ok
    obtain ⟨h0, h1⟩ := inq_iff ok
    have r : ∀ cd, (Instr.sliceBound (.int k b) n cd).run P w = .ok b.toNat w := fun cd => run_sliceBound h0 (by omega)
    exact ⟨by simp [Instr.sliceBounds, r, bd], by simp [bd]; omega, by simp [bd]⟩
  · rename_i k b rs k2 b2 rs2
    simp only [okB, Bool.and_eq_true] at ok
    obtain ⟨h0, h1⟩ := inq_iff ok.1
    obtain ⟨h2, h3⟩ := inq_iff ok.2
    have r : ∀ cd, (Instr.sliceBound (.int k2 b2) c cd).run P w = .ok b2.toNat w := fun cd => run_sliceBound h0 (by omega)
    have r2 : ∀ cd, (Instr.sliceBound (.int k b) b2.toNat cd).run P w = .ok b.toNat w := fun cd => run_sliceBound h2 (by omega)
    refine ⟨?_, by simp [bd]; omega, by simp [bd]; omega⟩
    cases s <;> simp [Instr.sliceBounds, r, r2, bd]
theorem dr_opt (R : Rel F w0 N ⟨U, h, ι⟩ T a w) (x : Option Operand) : (∀ d, x.map (ev T) = some d → ∃ u, x.map a.eval = some u ∧ DR ⟨U, h, ι⟩ d u) ∧ (x.map (ev T) = none → x.map a.eval = none) := by
  cases x with
  | none => exact ⟨fun d hd => by simp at hd, fun _ => rfl⟩
  | some x => exact ⟨fun d hd => by simp at hd; subst hd; exact ⟨_, rfl, dr_ev R x⟩, fun hd => by simp at hd⟩
theorem ok_slice {t : TypeId} {x : Operand} {lo hi : Option Operand} (K : TOk P E) (ho : o.op = .slice t x lo hi none) : Ok P E o := by
  intro F w0 w N U T h ι a Q nx e R he _
  simp only [exo, ho] at he
  unfold sliceD at he
  have hx := dr_ev R x
  split at he
  · rename_i s rs ex
    rw [ex] at hx
    obtain ⟨hv, _⟩ := dr_s hx
    split at he
    case isFalse => exact he.elim
    rename_i ht
    obtain ⟨bh, hbh, he⟩ := to_bound (dr_opt R hi).1 (dr_opt R hi).2 he
    obtain ⟨bl, hbl, he⟩ := to_bound (dr_opt R lo).1 (dr_opt R lo).2 he
    obtain ⟨ok, he⟩ := to_chk he
    have ok' : okB bl bh ((ByteArray.size s : Nat) : Int) = true := by unfold len at ok; exact ok
    obtain ⟨r, _, _⟩ := run_sliceBounds (P := P) (w := w) (s := false) hbl hbh ok' (Nat.le_refl _)
    have he' : (D.v .s (ByteArray.extract s (bd bl 0) (bd bh (ByteArray.size s))) [], [], nx) = e := he
    subst he'
    refine wp_val (v := .string (ByteArray.extract s (bd bl 0) (bd bh (ByteArray.size s)))) R ?_ (drs_ _)
    have hu := tok_string K ht
    have : (Instr.sliceAt t (a.eval x) (lo.map a.eval) (hi.map a.eval) none).run P w = .ok (.string (ByteArray.extract s (bd bl 0) (bd bh (ByteArray.size s)))) w := by
      rw [hv]
      simp [Instr.sliceAt, Instr.slice, run_underlying hu, r]
    simp only [execOp, ho]
    exact run_v (by simpa using this)
  · split at he
    case h_2 => exact he.elim
    rename_i b off n I hs hI
    split at he
    case isFalse => exact he.elim
    rename_i hc
    obtain ⟨hty, hrow⟩ := hc
    obtain ⟨bh, hbh, he⟩ := to_bound (dr_opt R hi).1 (dr_opt R hi).2 he
    obtain ⟨bl, hbl, he⟩ := to_bound (dr_opt R lo).1 (dr_opt R lo).2 he
    obtain ⟨ok, he⟩ := to_chk he
    obtain ⟨hU, ee, tt, l, own, hb, hle, A, c, hv, hnc, hA⟩ := dr_slc (M := ⟨U, h, ι⟩) hx hs (by show rowTy (h b) ≠ none; rw [hrow]; simp)
    have hb' : h b = .w ee tt l own := hb
    obtain ⟨hu, hnr, hsz, hsT, hag, ⟨ti, td, hti, htd, hts, _, _⟩, _⟩ := tok_slice K hI hty
    have htt : tt = I.et := by rw [hb'] at hrow; simpa [rowTy] using hrow
    subst htt
    obtain ⟨r, r1, r2⟩ := run_sliceBounds (P := P) (w := w) (s := true) hbl hbh ok hnc
    generalize hl0 : bd bl 0 = l0 at *
    generalize hh0 : bd bh n = h0 at *
    have he' : (D.sl b (offD off bl l0) (h0 - l0), [], nx) = e := he
    subst he'
    have hoff : (offD off bl l0).getD 0 = off.getD 0 + l0 := by
      cases bl with
      | none => simp [bd] at hl0; subst hl0; rfl
      | some i => simp [offD, addo_eq]
    refine wp_val (v := .slice (if c = l0 then A else A.map (·.add (l0 * I.et.sz))) (h0 - l0) (c - l0)) R ?_ ⟨hU, fun k t m hk => ?_⟩
    · have : (Instr.sliceAt t (a.eval x) (lo.map a.eval) (hi.map a.eval) none).run P w = .ok (.slice (if c = l0 then A else A.map (·.add (l0 * I.et.sz))) (h0 - l0) (c - l0)) w := by
        rw [hv]
        simp [Instr.sliceAt, Instr.slice, run_underlying hu, r, sizeOf, typeInfo, hti, hts]
      simp only [execOp, ho]
      exact run_v (by simpa using this)
    · have hk' : shp (h b) = some (k, t, m) := hk
      rw [hb'] at hk'
      simp [shp] at hk'
      obtain ⟨rfl, rfl, rfl⟩ := hk'
      refine ⟨rfl, by rw [hoff]; omega, _, _, rfl, by omega, ?_⟩
      rcases hA with ⟨rfl, h0n, hc0⟩ | ⟨g, o', cap, o'', hι, rfl, hoo⟩
      · refine .inl ⟨by split <;> rfl, by omega, by omega⟩
      · refine .inr ?_
        by_cases hcl : c = l0
        · exact ⟨g, o', cap, o'', hι, by rw [if_pos hcl], fun hz => by omega⟩
        · refine ⟨g, o', cap, o'' + l0 * I.et.sz, hι, by rw [if_neg hcl]; simp [Addr.add_mid], fun hz => ?_⟩
          rw [hoo (by omega), hoff, Nat.add_mul, Nat.add_assoc]
end
end Go.AM
end
/- Loads and stores. -/
section
set_option linter.constructorNameAsVariable false
set_option linter.unusedVariables false
set_option linter.unusedSimpArgs false
set_option linter.unnecessarySimpa false
namespace Go.AM
section
variable {P : Program} {F : Nat → Prop} {w0 w : World} {N : Nat} {U : Nat → Prop} {T : Nat → D} {h : Nat → Blk} {ι : Nat → Option (Nat × Nat × Nat)} {a : Act} {Q : Exit → Act → World → Prop} {E : Env} {o : Oper} {nx : Nat} {e : Eff} {M : Wd}
theorem range_part {g off : Nat} {C : Array Value} {ty : TypeId} {fr : Nat × Nat} (hg : w.heap[g]? = some (.cells C ty fr)) {pre mid post : List Value} (hC : C.toList = pre ++ (mid ++ post)) (hp : pre.length = off) : w.rangeAt g off mid := by
  intro j v hj
  have : C[off + j]? = some v := by
    rw [← Array.getElem?_toList, hC, ← hp, List.getElem?_append_right (by omega)]
    have hlt : j < mid.length := (List.getElem?_eq_some_iff.1 hj).1
    rw [List.getElem?_append_left (by omega)]
    simpa using hj
  simp [World.cell?, hg, this]
theorem run_load {t : TypeId} {I : TI} (K : TOk P E) (hI : E.ti t = some I) {g off : Nat} {mid : List Value} (hr : w.rangeAt g off mid) (hl : mid.length = I.ty.sz) :
    (Instr.loadAt t (.pointer (some ⟨g, off, none⟩))).run P w = .ok (mkT P t mid) w := by
  obtain ⟨_, hag, _, _, d, hd⟩ := tok_base K hI
  obtain ⟨i, hi, hs, _⟩ := tok_size K hI
  unfold mkT
  cases ha : aggT P t with
  | true =>
    rw [if_pos rfl]
    exact run_loadAt_mid w g off t mid d hr hd (by unfold aggT at ha; rw [hd] at ha; cases d <;> simp_all [aggD, TypeDesc.isRow]) (by simp [hi, hs, hl])
  | false =>
    have h1 : mid.length = 1 := by rw [hl]; rw [ha] at hag; exact ag_sz hag.symm
    match mid, h1 with
    | [v], _ =>
      have hc : w.cell? ⟨g, off, none⟩ = some v := hr 0 v rfl
      simp only [Instr.loadAt, Instr.sureAddr, Sem.run_bind, Sem.run_pure, Result.andThen_ok, loadVar, run_isAgg hd, ha]
      simp [load, Sem.run, hc]
theorem range_sub {g o off : Nat} {all pre mid post : List Value} (hr : w.rangeAt g o all) (hC : all = pre ++ (mid ++ post)) (hp : pre.length = off) : w.rangeAt g (o + off) mid := by
  intro j v hj
  rw [Nat.add_assoc]
  refine hr (off + j) v ?_
  rw [hC, ← hp, List.getElem?_append_right (by omega)]
  have hlt : j < mid.length := (List.getElem?_eq_some_iff.1 hj).1
  rw [List.getElem?_append_left (by omega)]
  simpa using hj
theorem row_range {b : Nat} {ee : TypeId} {t : Ty} {l : List t.den} {own : Bool} {g o c : Nat} (hb : BR M w b) (hh : M.h b = .w ee t l own) (hι : M.ι b = some (g, o, c)) : w.rangeAt g o (rowv t l) := by
  unfold BR at hb
  rw [hh] at hb
  obtain ⟨hnr, hsz, hwf, h1, h2⟩ := hb
  cases own with
  | true =>
    have h1 := h1 rfl
    rw [hι] at h1
    rcases h1.2 with ⟨h3, _⟩ | ⟨g', cap, cur, h3, _, h4, _, _, _, h5⟩
    · cases h3
    · simp only [Value.slice.injEq, Option.some.injEq, Addr.mk.injEq] at h3
      obtain ⟨⟨rfl, rfl, _⟩, _, rfl⟩ := h3
      exact range_part h4 (pre := []) (mid := rowv t l) (post := cur.toList.drop (l.length * t.sz)) (by rw [← h5]; simp) rfl
  | false =>
    have h2 := h2 rfl
    rw [hι] at h2
    obtain ⟨_, _, rfl | ⟨C, ty, fr, h3, h5, h4⟩⟩ := h2
    · intro j v hj; simp [rowv] at hj
    refine range_part h3 (pre := C.toList.take o) (mid := rowv t l) (post := (C.toList.drop o).drop (l.length * t.sz)) ?_ ?_
    · rw [← h4, List.take_append_drop, List.take_append_drop]
    · rw [List.length_take, Array.length_toList]; omega
theorem cs_allv : ∀ (t : Ty) (x : t.den) (rs : List Ref), t.nr = 0 → wf t x → ∀ c ∈ cs t x rs, ∃ y, c = .v y := by
  intro t
  induction t with
  | p a b iha ihb =>
    intro x rs hn hw c hc
    simp only [Ty.nr] at hn
    simp only [cs, List.mem_append] at hc
    rcases hc with hc | hc
    · exact iha _ _ (by omega) hw.1 c hc
    · exact ihb _ _ (by omega) hw.2 c hc
  | l n t ih =>
    intro (x : List t.den) rs hn hw c hc
    have hc' : c ∈ x.flatMap (fun y => cs t y []) := hc
    obtain ⟨y, hm, hy⟩ := List.mem_flatMap.1 hc'
    exact ih _ _ hw.2.1 (hw.2.2 y hm) c hy
  | r k => intro x rs hn; simp [Ty.nr] at hn
  | a k n => intro x rs hn _ c hc; simp only [cs, List.mem_map] at hc; obtain ⟨y, _, rfl⟩ := hc; exact ⟨_, rfl⟩
  | u => intro x rs hn _ c hc; simp [cs] at hc
  | _ => intro x rs hn _ c hc; simp only [cs, List.mem_singleton] at hc; exact ⟨_, hc⟩
theorem all2_val : ∀ (l : List CS), (∀ c ∈ l, ∃ y, c = .v y) → All2 (CR M) l (l.map val1)
  | [], _ => trivial
  | c :: l, h => by
    obtain ⟨y, rfl⟩ := h c (by simp)
    exact ⟨rfl, all2_val l fun c hc => h c (by simp [hc])⟩
theorem rowv_split {t : Ty} (l : List t.den) (j : Nat) (hj : j < l.length) (hw : ∀ y ∈ l, wf t y) : ∃ pre post, rowv t l = pre ++ ((cs t (l.getD j (dfl t)) []).map val1 ++ post) ∧ pre.length = j * t.sz := by
  refine ⟨(l.take j).flatMap fun y => (cs t y []).map val1, (l.drop (j + 1)).flatMap fun y => (cs t y []).map val1, ?_, ?_⟩
  · unfold rowv
    conv => lhs; rw [getD_split l j (dfl t) hj]
    simp
  · have key : ∀ l : List t.den, (∀ y ∈ l, wf t y) → (l.flatMap fun y => (cs t y []).map val1).length = l.length * t.sz := by
      intro l
      induction l with
      | nil => simp
      | cons y l ih =>
        intro hl
        have := ih (fun z hz => hl z (by simp [hz]))
        simp only [List.flatMap_cons, List.length_append, List.length_map, cs_len t y [] (hl y (by simp)), this, List.length_cons, Nat.add_mul]
        omega
    rw [key _ (fun y hy => hw y (List.mem_of_mem_take hy)), List.length_take, Nat.min_eq_left (by omega)]
/-- What stands behind a pointer, as the world has it. -/
theorem load_cells {b : Nat} {q : List Stp} {off : Nat} {u : Ty} {d : D} {g o c : Nat} (hb : BR M w b) (hι : M.ι b = some (g, o, c)) (hpb : PB (M.h b) q off u)
    (hl : lookB (M.h b) q = some d) :
    ∃ y rs mid, d = .v u y rs ∧ wf u y ∧ rs.length = u.nr ∧ w.rangeAt g (o + off) mid ∧ All2 (CR M) (cs u y rs) mid := by
  cases hh : M.h b with
  | o t x rs =>
    rw [hh] at hpb hl
    unfold BR at hb
    rw [hh] at hb
    obtain ⟨g', c', C, ty, h1, h2, h3, h4, h5⟩ := hb
    rw [hι] at h1
    simp only [Option.some.injEq, Prod.mk.injEq] at h1
    obtain ⟨rfl, rfl, rfl⟩ := h1
    obtain ⟨y, rs', rfl, h6, h7, pre, post, h8, h9⟩ := look_ok t x rs q off u d h3 h4 hpb hl
    obtain ⟨P1, M1, Q1, hC, l1, _, hM, _⟩ := all2_part h8 h5
    exact ⟨y, rs', M1, rfl, h6, h7, by rw [Nat.zero_add]; exact range_part h2 hC (by rw [l1, h9]), hM⟩
  | w ee t l own =>
    have hrr := row_range hb hh hι
    rw [hh] at hpb hl
    obtain ⟨j, q', o', rfl, hj, rfl, hp⟩ := hpb
    unfold BR at hb
    rw [hh] at hb
    obtain ⟨hnr, hsz, hwf, _, _⟩ := hb
    have hm : l.getD j (dfl t) ∈ l := by simp [hj]
    obtain ⟨y, rs', rfl, h6, h7, pre, post, h8, h9⟩ := look_ok t (l.getD j (dfl t)) [] q' o' u d (hwf _ hm) (by simp [hnr]) hp hl
    obtain ⟨P1, Q1, h10, h11⟩ := rowv_split l j hj hwf
    have hv := cs_allv t (l.getD j (dfl t)) [] hnr (hwf _ hm)
    refine ⟨y, rs', (cs u y rs').map val1, rfl, h6, h7, ?_, all2_val _ fun c hc => hv c (by rw [h8]; simp [hc])⟩
    refine range_sub hrr (pre := P1 ++ pre.map val1) (post := post.map val1 ++ Q1) ?_ (by rw [List.length_append, h11, List.length_map, h9])
    rw [h10, h8]
    simp
  | sh t => rw [hh] at hl; simp [lookB] at hl
  | it s p => rw [hh] at hpb; exact hpb.elim
  | de => rw [hh] at hpb; exact hpb.elim
theorem ok_load {t : TypeId} {x : Operand} (K : TOk P E) (ho : o.op = .load t x) : Ok P E o := by
  intro F w0 w N U T h ι a Q nx e R he _
  simp only [exo, ho] at he
  split at he
  case h_2 => exact he.elim
  rename_i u y rs hd
  split at he
  case isFalse => exact he.elim
  rename_i ht
  obtain rfl : (D.v u y rs, [], nx) = e := he
  unfold loadD at hd
  split at hd
  case h_2 => cases hd
  rename_i b q hp
  obtain ⟨hU, g, o', c, off, u', hι, hv, hpb⟩ := dr_ptr (M := ⟨U, h, ι⟩) (dr_ev R x) hp
  obtain ⟨I, hI, hty⟩ := Env.ty_some ht
  obtain ⟨y', rs', mid, e1, h1, h2, h3, h4⟩ := load_cells (M := ⟨U, h, ι⟩) (R.bl b) hι hpb (d := .v u y rs) hd
  simp only [D.v.injEq] at e1
  obtain ⟨rfl, e2, rfl⟩ := e1
  cases e2
  subst hty
  have hag := (tok_base K hI).2.1
  have hl := h4.length
  rw [cs_len _ _ _ h1] at hl
  refine wp_val (v := mkT P t mid) R ?_ (dr_mkT hag h4 h1 h2)
  have := run_load (P := P) (w := w) K hI h3 hl.symm
  simp only [execOp, ho, hv]
  exact run_v this
end
end Go.AM
end
/- Stores, and how a world with one block changed, or one more, stands for a state. -/
section
set_option linter.constructorNameAsVariable false
set_option linter.unusedVariables false
set_option linter.unusedSimpArgs false
set_option linter.unnecessarySimpa false
namespace Go.AM
section
variable {P : Program} {F : Nat → Prop} {w0 w w' : World} {N : Nat} {U : Nat → Prop} {T : Nat → D} {h : Nat → Blk} {ι : Nat → Option (Nat × Nat × Nat)} {a : Act} {Q : Exit → Act → World → Prop} {E : Env} {o : Oper} {nx : Nat} {e : Eff} {M M' : Wd}
/-- A world like another but for one block. -/
structure But (g : Nat) (w w' : World) : Prop where
  os : w'.os = w.os
  tape : w'.tape = w.tape
  output : w'.output = w.output
  size : w'.heap.size = w.heap.size
  block : ∀ j, j ≠ g → w'.heap[j]? = w.heap[j]?
theorem setCells_heap (g : Nat) : ∀ (vs : List Value) (o : Nat) (w : World) (C : Array Value) (ty : TypeId) (fr : Nat × Nat), w.heap[g]? = some (.cells C ty fr) → o + vs.length ≤ C.size →
    (∃ C', (w.setCells g o vs).heap[g]? = some (.cells C' ty fr) ∧ C'.toList = C.toList.take o ++ (vs ++ C.toList.drop (o + vs.length))) ∧ But g w (w.setCells g o vs)
  | [], o, w, C, ty, fr, hg, _ => ⟨⟨C, hg, by simp⟩, ⟨rfl, rfl, rfl, rfl, fun _ _ => rfl⟩⟩
  | v :: vs, o, w, C, ty, fr, hg, hl => by
    have hlt : g < w.heap.size := (Array.getElem?_eq_some_iff.1 hg).1
    have h1 : (w.setCell ⟨g, o, none⟩ v).heap[g]? = some (.cells (C.setIfInBounds o v) ty fr) := by
      unfold World.setCell
      simp only
      rw [Array.getElem?_modify]
      simp [hg]
    have hb : But g w (w.setCell ⟨g, o, none⟩ v) := ⟨rfl, rfl, rfl, by simp [World.setCell], fun j hj => by
      unfold World.setCell
      simp only
      rw [Array.getElem?_modify, if_neg (Ne.symm hj)]⟩
    obtain ⟨⟨C', h2, h3⟩, hb2⟩ := setCells_heap g vs (o + 1) (w.setCell ⟨g, o, none⟩ v) _ ty fr h1 (by simp at hl ⊢; omega)
    refine ⟨⟨C', h2, ?_⟩, ⟨hb2.os.trans hb.os, hb2.tape.trans hb.tape, hb2.output.trans hb.output, hb2.size.trans hb.size, fun j hj => (hb2.block j hj).trans (hb.block j hj)⟩⟩
    rw [h3, Array.toList_setIfInBounds, List.length_cons]
    have hol : o < C.toList.length := by simp at hl ⊢; omega
    rw [set_split _ _ _ hol]
    have lt : (C.toList.take o ++ [v]).length = o + 1 := by rw [List.length_append, List.length_take, Nat.min_eq_left (by omega)]; rfl
    have e : C.toList.take o ++ v :: C.toList.drop (o + 1) = (C.toList.take o ++ [v]) ++ C.toList.drop (o + 1) := by simp
    rw [e, List.take_left' lt, ← List.drop_drop, List.drop_left' lt, List.drop_drop, Nat.add_assoc o 1 vs.length, Nat.add_comm 1 vs.length]
    simp
theorem BR.same {b : Nat} (hb : BR M w b) (hh : M'.h b = M.h b) (hi : M'.ι b = M.ι b) (ex : Ext M M') (hw : ∀ g o c, M.h b ≠ .de → M.ι b = some (g, o, c) → w'.heap[g]? = w.heap[g]?) : BR M' w' b := by
  unfold BR at hb ⊢
  rw [hh]
  cases hk : M.h b with
  | de => exact trivial
  | o t x rs =>
    rw [hk] at hb
    obtain ⟨g, c, C, ty, h1, h2, h3, h4, h5⟩ := hb
    exact ⟨g, c, C, ty, by rw [hi, h1], by rw [hw g 0 c (by rw [hk]; simp) h1, h2], h3, h4, h5.mono (CR.ext ex)⟩
  | w ee t l own =>
    rw [hk] at hb
    obtain ⟨h1, h2, h3, h4, h5⟩ := hb
    refine ⟨h1, h2, h3, fun ho => ?_, fun ho => ?_⟩
    · have h4 := h4 ho
      rw [hi]
      refine ⟨h4.1, ?_⟩
      rcases h4.2 with h6 | ⟨g, cap, cur, h6, h7, h8, h9⟩
      · exact .inl h6
      · refine .inr ⟨g, cap, cur, h6, h7, ?_, h9⟩
        cases hι : M.ι b with
        | none => rw [hι] at h6; cases h6
        | some p =>
          obtain ⟨g', o', c'⟩ := p
          rw [hι] at h6
          simp only [Value.slice.injEq, Option.some.injEq, Addr.mk.injEq] at h6
          obtain ⟨⟨rfl, rfl, _⟩, _, _⟩ := h6
          rw [hw g' _ _ (by rw [hk]; simp) hι, h8]
    · have h5 := h5 ho
      rw [hi]
      cases hι : M.ι b with
      | none => rw [hι] at h5; exact h5
      | some p =>
        obtain ⟨g', o', c'⟩ := p
        rw [hι] at h5
        obtain ⟨h6, hlt, h5⟩ := h5
        have hw' := hw g' _ _ (by rw [hk]; simp) hι
        have hlt' : g' < w'.heap.size := by
          rw [Array.getElem?_eq_getElem hlt] at hw'
          exact (Array.getElem?_eq_some_iff.1 hw').1
        rcases h5 with rfl | ⟨C, ty, fr, h7, h8⟩
        · exact ⟨h6, hlt', .inl rfl⟩
        exact ⟨h6, hlt', .inr ⟨C, ty, fr, by rw [hw g' _ _ (by rw [hk]; simp) hι, h7], h8⟩⟩
  | sh t =>
    rw [hk] at hb
    obtain ⟨g, c, h1, h2⟩ := hb
    refine ⟨g, c, by rw [hi, h1], ?_⟩
    have hw' := hw g 0 c (by rw [hk]; simp) h1
    rw [Array.getElem?_eq_getElem h2] at hw'
    exact (Array.getElem?_eq_some_iff.1 hw').1
  | it s p =>
    rw [hk] at hb
    obtain ⟨g, c, h1, h2⟩ := hb
    exact ⟨g, c, by rw [hi, h1], by rw [hw g 0 c (by rw [hk]; simp) h1, h2]⟩
def upd1 (h : Nat → Blk) (b : Nat) (k : Blk) : Nat → Blk := fun i => if i = b then k else h i
theorem updH_one (b : Nat) (k : Blk) : updH h [(b, k)] = upd1 h b k := rfl
theorem upd1_same (b : Nat) (k : Blk) : upd1 h b k b = k := by simp [upd1]
theorem upd1_ne {b i : Nat} (k : Blk) (hi : i ≠ b) : upd1 h b k i = h i := by simp [upd1, hi]
theorem mutb_alive {k : Blk} (hm : mutb k = true) : k ≠ .de := by cases k <;> simp [mutb] at hm ⊢
theorem ext_one {b : Nat} {k : Blk} (hs : shp k = shp (h b)) : Ext ⟨U, h, ι⟩ ⟨U, upd1 h b k, ι⟩ := fun i hi => ⟨hi, .inr ⟨by
  by_cases e : i = b
  · subst e; simp only [upd1_same]; exact hs
  · simp only [upd1_ne k e], rfl⟩⟩
theorem Rel.one (R : Rel F w0 N ⟨U, h, ι⟩ T a w) {b g oo c : Nat} {k : Blk} (hι : ι b = some (g, oo, c)) (hm : mutb (h b) = true) (hs : shp k = shp (h b)) (hmk : mutb k = true) (hw : But g w w')
    (hb : BR ⟨U, upd1 h b k, ι⟩ w' b) : Rel F w0 N ⟨U, upd1 h b k, ι⟩ T a w' := by
  have hU : U b := by
    by_cases hu : U b
    · exact hu
    · have := R.un b hu
      simp only at this
      rw [this] at hm; simp [mutb] at hm
  have ex : Ext ⟨U, h, ι⟩ ⟨U, upd1 h b k, ι⟩ := fun i hi => ⟨hi, .inr ⟨by
    by_cases e : i = b
    · subst e; simp only [upd1_same]; exact hs
    · simp only [upd1_ne k e], rfl⟩⟩
  have hgf := R.ft b g oo c hm hι
  refine ⟨R.size, fun i => DR.ext ex _ _ (R.tm i), fun i => ?_, fun i hi => ?_, ?_, ?_, ?_, R.df⟩
  · by_cases e : i = b
    · subst e; exact hb
    · refine BR.same (R.bl i) (by simp only [upd1_ne k e]) rfl ex fun g' o' c' ha hi => ?_
      exact hw.block g' (Ne.symm (R.sp b i g oo c g' o' c' (Ne.symm e) hm ha hι hi))
  · have hne : i ≠ b := fun e => hi (e ▸ hU)
    simp only [upd1_ne k hne]
    exact R.un i hi
  · intro i j g1 o1 c1 g2 o2 c2 hij h1 h2 h3 h4
    refine R.sp i j g1 o1 c1 g2 o2 c2 hij ?_ ?_ h3 h4
    · by_cases e : i = b
      · subst e; exact hm
      · simpa only [upd1_ne k e] using h1
    · by_cases e : j = b
      · subst e; exact mutb_alive hm
      · simpa only [upd1_ne k e] using h2
  · intro i g1 o1 c1 h1 h2
    refine R.ft i g1 o1 c1 ?_ h2
    by_cases e : i = b
    · subst e; exact hm
    · simpa only [upd1_ne k e] using h1
  · refine ⟨hw.os.trans R.fr.os, hw.tape.trans R.fr.tape, hw.output.trans R.fr.output, by rw [hw.size]; exact R.fr.size, fun j hj hF => ?_⟩
    rw [hw.block j ?_, R.fr.block j hj hF]
    rintro rfl
    rcases hgf with h | h
    · exact hF h
    · omega
theorem addU_mem {b : Nat} {k : Blk} (hb : U b) : addU U [(b, k)] = U := by
  funext i
  simp only [addU, List.mem_singleton, Prod.mk.injEq, eq_iff_iff]
  exact ⟨fun hi => hi.elim id fun ⟨_, e, _⟩ => e ▸ hb, .inl⟩
theorem run_store {t : TypeId} {I : TI} (K : TOk P E) (hI : E.ti t = some I) {g off : Nat} {v : Value} {C : Array Value} {ty : TypeId} (hg : w.heap[g]? = some (.cells C ty (0, 0))) (hb : off + v.cells.size ≤ C.size) (hl : v.cells.size = I.ty.sz) (h1 : ∀ x ∈ v.cells.toList, x.oneCell' = true) :
    (Instr.storeAt t (.pointer (some ⟨g, off, none⟩)) v).run P w = .ok () (w.setCells g off v.cells.toList) := by
  obtain ⟨i, hi, hs, _⟩ := tok_size K hI
  have := run_storeCells_cells (P := P) g off v.cells.toList 0 w (fun j hj => by
    have hj' : j < v.cells.size := by simpa using hj
    have : off + j < C.size := by omega
    simp [World.cell?, hg, this]) (fun j hj => by simp [World.frozen?, hg]) h1
  simp only [Nat.add_zero] at this
  simp [Instr.storeAt, Instr.sureAddr, storeVar, sizeOf, typeInfo, hi, hl, hs, this]
theorem rowv_len {t : Ty} : ∀ (l : List t.den), (∀ y ∈ l, wf t y) → (rowv t l).length = l.length * t.sz
  | [], _ => by simp [rowv]
  | y :: l, h => by
    have := rowv_len l (fun z hz => h z (by simp [hz]))
    unfold rowv at this ⊢
    simp only [List.flatMap_cons, List.length_append, List.length_map, cs_len t y [] (h y (by simp)), this, List.length_cons, Nat.add_mul]
    omega
theorem rowv_get {t : Ty} (l : List t.den) (j : Nat) (hj : j < l.length) : rowv t l = rowv t (l.take j) ++ ((cs t (l.getD j (dfl t)) []).map val1 ++ rowv t (l.drop (j + 1))) := by
  unfold rowv
  conv => lhs; rw [getD_split l j (dfl t) hj]
  simp
theorem rowv_set {t : Ty} (l : List t.den) (j : Nat) (y : t.den) (hj : j < l.length) : rowv t (l.set j y) = rowv t (l.take j) ++ ((cs t y []).map val1 ++ rowv t (l.drop (j + 1))) := by
  unfold rowv
  rw [set_split l j y hj]
  simp
theorem all2_eq : ∀ {l : List CS} {m : List Value}, (∀ c ∈ l, ∃ y, c = .v y) → All2 (CR M) l m → m = l.map val1
  | [], [], _, _ => rfl
  | c :: l, v :: m, hc, h => by
    obtain ⟨x, rfl⟩ := hc c (by simp)
    rw [all2_eq (fun c hc' => hc c (by simp [hc'])) h.2, show v = x from h.1]; rfl
  | [], _ :: _, _, h => h.elim
  | _ :: _, [], _, h => h.elim
theorem sz_cells {u : Ty} {y : u.den} {rs : List Ref} {v : Value} (hd : DR M (.v u y rs) v) : v.cells.size = u.sz := by
  have := hd.2.2.2.length
  rw [cs_len u y rs hd.1] at this
  simpa using this.symm
theorem ok_store {t : TypeId} {x y : Operand} (K : TOk P E) (ho : o.op = .store t x y) : Ok P E o := by
  intro F w0 w N U T h ι a Q nx e R he _
  simp only [exo, ho] at he
  split at he
  case h_2 => exact he.elim
  rename_i u z rs ey
  have hy := dr_ev R y
  rw [ey] at hy
  split at he
  case isFalse => exact he.elim
  rename_i ht
  split at he
  case h_2 => exact he.elim
  rename_i us hus
  obtain rfl : (D.no, us, nx) = e := he
  unfold storeD at hus
  split at hus
  case h_2 => cases hus
  rename_i b q hp
  rw [Option.map_eq_some_iff] at hus
  obtain ⟨k, hk, rfl⟩ := hus
  obtain ⟨hU, g, o', c, off, u', hι, hv, hpb⟩ := dr_ptr (M := ⟨U, h, ι⟩) (dr_ev R x) hp
  obtain ⟨I, hI, hty⟩ := Env.ty_some ht
  have hvs := sz_cells hy
  have hone := cs_one _ _ _ _ hy.2.2.2
  have hbr := R.bl b
  have hpb' : PB (h b) q off u' := hpb
  -- the block's cells
  have key : ∃ C ty, w.heap[g]? = some (.cells C ty (0, 0)) ∧ o' = 0 ∧ off + u.sz ≤ C.size ∧ mutb (h b) = true ∧ shp k = shp (h b) ∧ mutb k = true ∧
      ∀ (C' : Array Value) (w' : World), But g w w' → w'.heap[g]? = some (.cells C' ty (0, 0)) → C'.toList = C.toList.take off ++ ((a.eval y).cells.toList ++ C.toList.drop (off + (a.eval y).cells.toList.length)) → BR ⟨U, upd1 h b k, ι⟩ w' b := by
    unfold BR at hbr
    cases hb : h b with
    | o t0 x0 rs0 =>
      simp only [hb] at hbr hpb' hk
      obtain ⟨g', c', C, ty, h1, h2, h3, h4, h5⟩ := hbr
      have hι' : ι b = some (g, o', c) := hι
      have h1' : ι b = some (g', 0, c') := h1
      rw [hι'] at h1'
      simp only [Option.some.injEq, Prod.mk.injEq] at h1'
      obtain ⟨rfl, rfl, rfl⟩ := h1'
      simp only [updB, Option.map_eq_some_iff] at hk
      obtain ⟨r, hr, rfl⟩ := hk
      obtain ⟨y', rs', e1, hh⟩ := upd_ok t0 x0 rs0 q off u' _ r h3 h4 hpb' hr
      simp only [D.v.injEq] at e1
      obtain ⟨rfl, e2, rfl⟩ := e1
      cases e2
      obtain ⟨w1, w2, pre, mid, post, w3, w4, w5, w6⟩ := hh hy.1 hy.2.1
      obtain ⟨P1, M1, Q1, hC, l1, a1, a2, a3⟩ := all2_part w3 h5
      have lm := a2.length
      have lP : P1.length = off := by rw [l1, w4]
      refine ⟨C, ty, h2, rfl, ?_, rfl, rfl, rfl, fun C' w' _ hg' hC' => ?_⟩
      · have := congrArg List.length hC
        simp at this
        omega
      · unfold BR
        simp only [upd1_same]
        have ex : Ext ⟨U, h, ι⟩ ⟨U, upd1 h b (.o t0 r.1 r.2), ι⟩ := fun i hi => ⟨hi, .inr ⟨by
          by_cases e : i = b
          · subst e; simp only [upd1_same, hb]; rfl
          · simp only [upd1_ne _ e], rfl⟩⟩
        refine ⟨g, c, C', ty, hι', hg', w1, w2, ?_⟩
        have lY : (a.eval y).cells.toList.length = M1.length := by rw [← lm, w5, Array.length_toList, hvs]
        have e : C'.toList = P1 ++ ((a.eval y).cells.toList ++ Q1) := by
          rw [hC', hC, List.take_left' lP, lY, ← List.drop_drop, List.drop_left' lP, List.drop_left' rfl]
        rw [e, w6]
        exact (a1.mono (CR.ext ex)).append ((hy.2.2.2.mono (CR.ext ex)).append (a3.mono (CR.ext ex)))
    | w ee t0 l own =>
      simp only [hb] at hbr hpb' hk
      cases own with
      | false => simp [updB] at hk
      | true =>
      obtain ⟨j, q', o1, rfl, hj, rfl, hp0⟩ := hpb'
      obtain ⟨hnr, hsz, hwf, h1, _⟩ := hbr
      have h1 := h1 rfl
      have hι' : ι b = some (g, o', c) := hι
      simp only [hι'] at h1
      rcases h1.2 with ⟨h3, _⟩ | ⟨g', cap, cur, h3, _, h4, h6, h7, h8, h5⟩
      · cases h3
      · simp only [Value.slice.injEq, Option.some.injEq, Addr.mk.injEq] at h3
        obtain ⟨⟨rfl, rfl, _⟩, _, rfl⟩ := h3
        simp only [updB, Option.map_eq_some_iff] at hk
        obtain ⟨r, hr, rfl⟩ := hk
        have hm : l.getD j (dfl t0) ∈ l := by simp [hj]
        obtain ⟨y', rs', e1, hh⟩ := upd_ok t0 (l.getD j (dfl t0)) [] q' o1 u' _ r (hwf _ hm) (by simp [hnr]) hp0 hr
        simp only [D.v.injEq] at e1
        obtain ⟨rfl, e2, rfl⟩ := e1
        cases e2
        obtain ⟨w1, w2, pre, mid, post, w3, w4, w5, w6⟩ := hh hy.1 hy.2.1
        have hr2 : r.2 = [] := List.eq_nil_of_length_eq_zero (by rw [w2, hnr])
        rw [hr2] at w6
        have hY : (a.eval y).cells.toList = (cs _ z rs).map val1 := all2_eq (fun c hc => cs_allv t0 r.1 [] hnr w1 c (by rw [w6]; simp [hc])) hy.2.2.2
        have lY : (a.eval y).cells.toList.length = u.sz := by simpa using hvs
        have hcur : cur.toList = rowv t0 l ++ cur.toList.drop (l.length * t0.sz) := by rw [← h5, List.take_append_drop]
        have hg := rowv_get l j hj
        have hst := rowv_set l j r.1 hj
        rw [w3] at hg
        rw [w6] at hst
        have lA : (rowv t0 (l.take j)).length = j * t0.sz := by rw [rowv_len _ (fun y hy => hwf y (List.mem_of_mem_take hy)), List.length_take, Nat.min_eq_left (by omega)]
        have lR := rowv_len l hwf
        generalize hA : rowv t0 (l.take j) = A at *
        generalize hB : rowv t0 (l.drop (j + 1)) = B at *
        generalize hZ : cur.toList.drop (l.length * t0.sz) = Z at *
        have hcur2 : cur.toList = (A ++ pre.map val1) ++ (mid.map val1 ++ (post.map val1 ++ B ++ Z)) := by rw [hcur, hg]; simp
        have lP : (A ++ pre.map val1).length = j * t0.sz + o1 := by rw [List.length_append, lA, List.length_map, w4]
        have lM : (mid.map val1).length = u.sz := by rw [List.length_map, w5]
        refine ⟨cur, ee, h4, rfl, ?_, rfl, by simp [shp], rfl, fun C' w' hbut hg' hC' => ?_⟩
        · have := congrArg List.length hcur2
          rw [List.length_append, lP, List.length_append, lM] at this
          simp only [Array.length_toList] at this
          omega
        · have hC2 : C'.toList = (A ++ pre.map val1) ++ ((a.eval y).cells.toList ++ (post.map val1 ++ B ++ Z)) := by
            rw [hC', hcur2, List.take_left' lP, lY, ← List.drop_drop, List.drop_left' lP, List.drop_left' lM]
          have hC3 : C'.toList = rowv t0 (l.set j r.1) ++ Z := by rw [hC2, hst, hY]; simp
          have lS : (rowv t0 (l.set j r.1)).length = l.length * t0.sz := by
            rw [rowv_len _ (fun y hy => by
              rcases List.mem_or_eq_of_mem_set hy with hy | rfl
              · exact hwf y hy
              · exact w1), List.length_set]
          unfold BR
          simp only [upd1_same]
          refine ⟨hnr, hsz, fun y hy => ?_, fun _ => ?_, fun h => by simp at h⟩
          · rcases List.mem_or_eq_of_mem_set hy with hy | rfl
            · exact hwf y hy
            · exact w1
          · simp only [hι', List.length_set]
            refine ⟨by rw [lS], .inr ⟨g, c, C', rfl, Nat.zero_le _, hg', h6, h7, ?_, by rw [hC3, List.take_left' lS]⟩⟩
            rw [← h8]
            have e1 := congrArg List.length hcur2
            have e2 := congrArg List.length hC2
            simp only [List.length_append, Array.length_toList] at e1 e2 lY
            rw [lM] at e1
            omega
    | sh t => simp [hb, updB] at hk
    | it s p => simp only [hb] at hpb'; exact hpb'.elim
    | de => simp only [hb] at hpb'; exact hpb'.elim
  obtain ⟨C, ty, h2, rfl, h3, hm, hs, hmk, hB⟩ := key
  obtain ⟨⟨C', h4, h5⟩, hbut⟩ := setCells_heap g (a.eval y).cells.toList off w C ty (0, 0) h2 (by simpa [hvs] using h3)
  have run := run_store (P := P) (w := w) K hI (g := g) (off := off) (v := a.eval y) h2 (by rw [hvs]; exact h3) (by rw [hvs, hty]) hone
  refine .inr ⟨by simp, ?_⟩
  unfold Oper.wp
  have hex : (execOp a.eval o).run P w = .ok .skip (w.setCells g off (a.eval y).cells.toList) := by
    simp only [execOp, ho, hv, Nat.zero_add]
    rw [Sem.run_bind, run]
    rfl
  rw [hex, Oper.upon_skip]
  refine ⟨ι, ?_⟩
  rw [addU_mem hU]
  exact ⟨(Rel.one R hι hm hs hmk hbut (hB C' _ hbut h4 h5)).put o.dst (d := .no) (v := undef) trivial, ext_one hs⟩
end
end Go.AM
end
/- New blocks. -/
section
set_option linter.constructorNameAsVariable false
set_option linter.unusedVariables false
set_option linter.unusedSimpArgs false
set_option linter.unnecessarySimpa false
namespace Go.AM
section
variable {P : Program} {F : Nat → Prop} {w0 w w' : World} {N : Nat} {U : Nat → Prop} {T : Nat → D} {h : Nat → Blk} {ι : Nat → Option (Nat × Nat × Nat)} {a : Act} {Q : Exit → Act → World → Prop} {E : Env} {o : Oper} {nx : Nat} {e : Eff} {M M' : Wd}
def hNew (h : Nat → Blk) (nx : Nat) (k : Blk) (dead : Option Nat) : Nat → Blk := fun i => if dead = some i then .de else if i = nx then k else h i
def iNew (ι : Nat → Option (Nat × Nat × Nat)) (nx : Nat) (loc : Option (Nat × Nat × Nat)) : Nat → Option (Nat × Nat × Nat) := fun i => if i = nx then loc else ι i
def uNew (U : Nat → Prop) (nx : Nat) : Nat → Prop := fun i => U i ∨ i = nx
structure Grow (ι : Nat → Option (Nat × Nat × Nat)) (dead : Option Nat) (w w' : World) : Prop where
  os : w'.os = w.os
  tape : w'.tape = w.tape
  output : w'.output = w.output
  size : w.heap.size ≤ w'.heap.size
  block : ∀ j, j < w.heap.size → (∀ b o c, dead = some b → ι b ≠ some (j, o, c)) → w'.heap[j]? = w.heap[j]?
theorem BR.lt {b g oo c : Nat} (hb : BR M w b) (ha : M.h b ≠ .de) (hι : M.ι b = some (g, oo, c)) : g < w.heap.size := by
  unfold BR at hb
  cases hk : M.h b with
  | de => exact absurd hk ha
  | o t x rs =>
    rw [hk] at hb
    obtain ⟨g', c', C, ty, h1, h2, _⟩ := hb
    rw [hι] at h1; simp at h1; obtain ⟨rfl, _⟩ := h1
    exact (Array.getElem?_eq_some_iff.1 h2).1
  | w ee t l own =>
    rw [hk] at hb
    obtain ⟨_, _, _, h4, h5⟩ := hb
    cases own with
    | true =>
      have h4 := h4 rfl
      rw [hι] at h4
      exact (h4.lt g rfl).2
    | false =>
      have h5 := h5 rfl
      rw [hι] at h5
      exact h5.2.1
  | sh t =>
    rw [hk] at hb
    obtain ⟨g', c', h1, h2⟩ := hb
    rw [hι] at h1; simp at h1; obtain ⟨rfl, _⟩ := h1
    exact h2
  | it s p =>
    rw [hk] at hb
    obtain ⟨g', c', h1, h2⟩ := hb
    rw [hι] at h1; simp at h1; obtain ⟨rfl, _⟩ := h1
    exact (Array.getElem?_eq_some_iff.1 h2).1
theorem ext_new (hn : ¬ U nx) (k : Blk) (loc : Option (Nat × Nat × Nat)) (dead : Option Nat) : Ext ⟨U, h, ι⟩ ⟨uNew U nx, hNew h nx k dead, iNew ι nx loc⟩ := by
  intro i hi
  have hne : i ≠ nx := fun e => hn (e ▸ hi)
  refine ⟨.inl hi, ?_⟩
  by_cases hd : dead = some i
  · left; simp [hNew, hd, shp]
  · right; simp [hNew, hd, hne, iNew]
theorem Rel.gen (R : Rel F w0 N ⟨U, h, ι⟩ T a w) (hn : ¬ U nx) (k : Blk) (loc : Option (Nat × Nat × Nat)) (dead : Option Nat) (hd : ∀ b, dead = some b → U b ∧ mutb (h b) = true) (hg : Grow ι dead w w')
    (hl : ∀ g oo c, loc = some (g, oo, c) → w.heap.size ≤ g ∨ ∃ b o' c', dead = some b ∧ ι b = some (g, o', c'))
    (hb : BR ⟨uNew U nx, hNew h nx k dead, iNew ι nx loc⟩ w' nx) : Rel F w0 N ⟨uNew U nx, hNew h nx k dead, iNew ι nx loc⟩ T a w' := by
  have ex := ext_new (h := h) (ι := ι) hn k loc dead
  have hde : h nx = .de := R.un nx hn
  have hdn : dead ≠ some nx := fun e => hn (hd nx e).1
  -- an old block that lives on lies apart from what changed
  have apart : ∀ i g oo c, i ≠ nx → dead ≠ some i → h i ≠ .de → ι i = some (g, oo, c) → g < w.heap.size ∧ ∀ b o' c', dead = some b → ι b ≠ some (g, o', c') := by
    intro i g oo c hi hdi ha hι
    refine ⟨BR.lt (R.bl i) ha hι, fun b o' c' hb hib => ?_⟩
    exact R.sp b i g o' c' g oo c (fun e => hdi (e ▸ hb)) (hd b hb).2 ha hib hι rfl
  refine ⟨R.size, fun i => DR.ext ex _ _ (R.tm i), fun i => ?_, fun i hi => ?_, ?_, ?_, ?_, R.df⟩
  · by_cases hi : i = nx
    · subst hi; exact hb
    · by_cases hdi : dead = some i
      · unfold BR; simp [hNew, hdi]
      · refine BR.same (R.bl i) (by simp [hNew, hdi, hi]) (by simp [iNew, hi]) ex fun g oo c ha hι => ?_
        obtain ⟨h1, h2⟩ := apart i g oo c hi hdi ha hι
        exact hg.block g h1 fun b o' c' hb => h2 b o' c' hb
  · have hi' : ¬ U i ∧ i ≠ nx := ⟨fun h => hi (.inl h), fun h => hi (.inr h)⟩
    show hNew h nx k dead i = .de
    unfold hNew
    split
    · rfl
    · rw [if_neg hi'.2]; exact R.un i hi'.1
  · intro i j g1 o1 c1 g2 o2 c2 hij h1 h2 h3 h4
    simp only [hNew, iNew] at h1 h2 h3 h4
    have hdi : dead ≠ some i := fun e => by rw [if_pos e] at h1; simp [mutb] at h1
    have hdj : dead ≠ some j := fun e => by rw [if_pos e] at h2; simp at h2
    rw [if_neg hdi] at h1
    rw [if_neg hdj] at h2
    by_cases hi : i = nx
    · subst hi
      have hj : j ≠ i := Ne.symm hij
      rw [if_neg hj] at h2 h4
      rw [if_pos rfl] at h3
      obtain ⟨h5, h6⟩ := apart j g2 o2 c2 hj hdj h2 h4
      rintro rfl
      rcases hl g1 o1 c1 h3 with h7 | ⟨b, o', c', h7, h8⟩
      · omega
      · exact h6 b o' c' h7 h8
    · rw [if_neg hi] at h1 h3
      by_cases hj : j = nx
      · subst hj
        rw [if_pos rfl] at h4
        obtain ⟨h5, h6⟩ := apart i g1 o1 c1 hi hdi (mutb_alive h1) h3
        rintro rfl
        rcases hl g1 o2 c2 h4 with h7 | ⟨b, o', c', h7, h8⟩
        · omega
        · exact h6 b o' c' h7 h8
      · rw [if_neg hj] at h2 h4
        exact R.sp i j g1 o1 c1 g2 o2 c2 hij h1 h2 h3 h4
  · intro i g1 o1 c1 h1 h2
    simp only [hNew, iNew] at h1 h2
    have hdi : dead ≠ some i := fun e => by rw [if_pos e] at h1; simp [mutb] at h1
    rw [if_neg hdi] at h1
    by_cases hi : i = nx
    · rw [if_pos hi] at h2
      rcases hl g1 o1 c1 h2 with h7 | ⟨b, o', c', h7, h8⟩
      · exact .inr (Nat.le_trans R.fr.size h7)
      · exact R.ft b g1 o' c' (hd b h7).2 h8
    · rw [if_neg hi] at h1 h2
      exact R.ft i g1 o1 c1 h1 h2
  · refine ⟨hg.os.trans R.fr.os, hg.tape.trans R.fr.tape, hg.output.trans R.fr.output, Nat.le_trans R.fr.size hg.size, fun j hj hF => ?_⟩
    rw [hg.block j (Nat.lt_of_lt_of_le hj R.fr.size) ?_, R.fr.block j hj hF]
    intro b o' c' hb hib
    rcases R.ft b j o' c' (hd b hb).2 hib with h | h
    · exact hF h
    · omega
theorem addU_new (k : Blk) : addU U [(nx, k)] = uNew U nx := by
  funext i
  simp [addU, uNew]
theorem updH_new (k : Blk) : updH h [(nx, k)] = hNew h nx k none := by
  funext i
  simp [updH, hNew]
theorem addU_new2 (k : Blk) {b : Nat} (hb : U b) : addU U [(nx, k), (b, .de)] = uNew U nx := by
  funext i
  simp only [addU, uNew, List.mem_cons, Prod.mk.injEq, List.not_mem_nil, or_false, eq_iff_iff]
  constructor
  · rintro (h | ⟨_, ⟨rfl, _⟩ | ⟨rfl, _⟩⟩)
    · exact .inl h
    · exact .inr rfl
    · exact .inl hb
  · rintro (h | rfl)
    · exact .inl h
    · exact .inr ⟨k, .inl ⟨rfl, rfl⟩⟩
theorem updH_new2 (k : Blk) {b : Nat} : updH h [(nx, k), (b, .de)] = hNew h nx k (some b) := by
  funext i
  simp only [updH, List.foldl_cons, List.foldl_nil, hNew, Option.some.injEq]
  by_cases h1 : i = b
  · simp [h1]
  · rw [if_neg h1, if_neg (Ne.symm h1)]
theorem grow_alloc (obj : Obj) : Grow ι none w (w.alloc obj) := ⟨rfl, rfl, rfl, by show _ ≤ (w.heap.push obj).size; simp, fun j hj _ => heap_alloc_old w obj hj⟩
/-- One more block of cells. -/
theorem nx_alloc (R : Rel F w0 N ⟨U, h, ι⟩ T a w) (hn : ¬ U nx) {t : Ty} {x : t.den} {rs : List Ref} {C : Array Value} {ty : TypeId} (hw : wf t x) (hr : rs.length = t.nr) (hC : All2 (CR ⟨U, h, ι⟩) (cs t x rs) C.toList) (dst : Option Nat) :
    Nx F w0 N ⟨U, h, ι⟩ (addU U [(nx, .o t x rs)]) (putT N T dst (.v (.r .p) () [.p nx])) (updH h [(nx, .o t x rs)]) (a.put dst (.pointer (some ⟨w.heap.size, 0, none⟩))) (w.alloc (.cells C ty)) := by
  rw [addU_new, updH_new]
  refine ⟨iNew ι nx (some (w.heap.size, 0, 0)), ?_⟩
  have ex := ext_new (h := h) (ι := ι) hn (.o t x rs) (some (w.heap.size, 0, 0)) none
  have R' := Rel.gen R hn (.o t x rs) (some (w.heap.size, 0, 0)) none (fun b hb => by cases hb) (grow_alloc (.cells C ty)) (fun g oo c hg => by simp at hg; exact .inl (by omega)) (by
    unfold BR
    simp only [hNew, if_neg (show ¬ (none : Option Nat) = some nx by simp), if_pos rfl]
    exact ⟨w.heap.size, 0, C, ty, by simp [iNew], heap_alloc_new w _, hw, hr, hC.mono (CR.ext ex)⟩)
  exact ⟨R'.put dst ⟨trivial, rfl, rfl, ⟨⟨.inr rfl, fun _ => ⟨w.heap.size, 0, by simp [iNew], rfl⟩⟩, rfl⟩, trivial⟩, ex⟩
end
end Go.AM
end
/- New blocks: the operations. -/
section
set_option linter.constructorNameAsVariable false
set_option linter.unusedVariables false
set_option linter.unusedSimpArgs false
set_option linter.unnecessarySimpa false
namespace Go.AM
section
variable {P : Program} {F : Nat → Prop} {w0 w w' : World} {N : Nat} {U : Nat → Prop} {T : Nat → D} {h : Nat → Blk} {ι : Nat → Option (Nat × Nat × Nat)} {a : Act} {Q : Exit → Act → World → Prop} {E : Env} {o : Oper} {nx : Nat} {e : Eff} {M M' : Wd}
theorem wf_dfl : ∀ t : Ty, wfT t = true → wf t (dfl t) ∧ (drs t).length = t.nr := by
  intro t
  induction t with
  | p a b iha ihb =>
    intro h
    simp only [wfT, Bool.and_eq_true] at h
    exact ⟨⟨(iha h.1).1, (ihb h.2).1⟩, by simp [drs, Ty.nr, (iha h.1).2, (ihb h.2).2]⟩
  | l n t ih =>
    intro h
    simp only [wfT, Bool.and_eq_true, beq_iff_eq] at h
    exact ⟨⟨by show (List.replicate n (dfl t)).length = n; simp, h.1, fun y hy => by
      have hy' : y ∈ List.replicate n (dfl t) := hy
      rw [List.eq_of_mem_replicate hy']; exact (ih h.2).1⟩, rfl⟩
  | a k n => intro _; exact ⟨by show (List.replicate n (0 : Int)).length = n; simp, rfl⟩
  | _ => intro _; exact ⟨trivial, rfl⟩
def isNil : Ref → Bool | .np | .ns | .nm => true | _ => false
theorem drs_nil : ∀ t : Ty, ∀ r ∈ drs t, isNil r = true := by
  intro t
  induction t with
  | p a b iha ihb => intro r hr; simp only [drs, List.mem_append] at hr; exact hr.elim (iha r) (ihb r)
  | r k => intro r hr; simp only [drs, List.mem_singleton] at hr; subst hr; cases k <;> rfl
  | _ => intro r hr; simp [drs] at hr
theorem all2_nil : ∀ (l : List CS), (∀ c ∈ l, (∃ y, c = .v y) ∨ ∃ r, c = .r r ∧ isNil r = true) → All2 (CR M) l (l.map nilv)
  | [], _ => trivial
  | c :: l, h => by
    refine ⟨?_, all2_nil l fun c hc => h c (by simp [hc])⟩
    rcases h c (by simp) with ⟨y, rfl⟩ | ⟨r, rfl, hr⟩
    · rfl
    · cases r <;> simp [isNil] at hr <;> exact ⟨rfl, rfl⟩
theorem cs_nil : ∀ (t : Ty) (x : t.den) (rs : List Ref), wf t x → (∀ r ∈ rs, isNil r = true) → rs.length = t.nr → ∀ c ∈ cs t x rs, (∃ y, c = .v y) ∨ ∃ r, c = .r r ∧ isNil r = true := by
  intro t
  induction t with
  | p a b iha ihb =>
    intro x rs hw hn hl c hc
    simp only [Ty.nr] at hl
    simp only [cs, List.mem_append] at hc
    rcases hc with hc | hc
    · exact iha _ _ hw.1 (fun r hr => hn r (List.mem_of_mem_take hr)) (by rw [List.length_take]; omega) c hc
    · exact ihb _ _ hw.2 (fun r hr => hn r (List.mem_of_mem_drop hr)) (by rw [List.length_drop]; omega) c hc
  | l n t ih =>
    intro (x : List t.den) rs hw hn hl c hc
    have hc' : c ∈ x.flatMap (fun y => cs t y []) := hc
    obtain ⟨y, hm, hy⟩ := List.mem_flatMap.1 hc'
    exact .inl (cs_allv t y [] hw.2.1 (hw.2.2 y hm) c hy)
  | r k =>
    intro x rs hw hn hl c hc
    simp only [cs, List.mem_singleton] at hc
    match rs, hl with
    | [r], _ => exact .inr ⟨r, by simpa using hc, hn r (by simp)⟩
  | a k n => intro x rs hw hn hl c hc; simp only [cs, List.mem_map] at hc; obtain ⟨y, _, rfl⟩ := hc; exact .inl ⟨_, rfl⟩
  | u => intro x rs hw hn hl c hc; simp [cs] at hc
  | _ => intro x rs hw hn hl c hc; simp only [cs, List.mem_singleton] at hc; exact .inl ⟨_, hc⟩
theorem zero_cells {t : TypeId} {ty : Ty} (hz : zeroOk P t ty = true) : ∃ i z, P.info? t = some i ∧ i.zero = some z ∧ i.size = ty.sz ∧ wfT ty = true ∧ AM.isAgg z = ty.ag ∧ z.cells.toList = (cs ty (dfl ty) (drs ty)).map nilv := by
  unfold zeroOk at hz
  cases hi : P.info? t with
  | none => simp [hi] at hz
  | some i =>
    simp only [hi, Bool.and_eq_true] at hz
    cases hzz : i.zero with
    | none => simp [hzz] at hz
    | some z =>
      simp only [hzz, Bool.and_eq_true] at hz
      exact ⟨i, z, rfl, hzz, by simpa using hz.1.1, hz.1.2, by simpa using hz.2.1, vleq_eq hz.2.2⟩
theorem zero_all2 {ty : Ty} (hw : wfT ty = true) : All2 (CR M) (cs ty (dfl ty) (drs ty)) ((cs ty (dfl ty) (drs ty)).map nilv) :=
  all2_nil _ (cs_nil ty _ _ (wf_dfl ty hw).1 (drs_nil ty) (wf_dfl ty hw).2)
theorem run_newVar {t : TypeId} {v : Value} : (newVar t v).run P w = .ok ⟨w.heap.size, 0, none⟩ (w.alloc (.cells v.cells t)) := by
  simp [newVar, newRow, run_newObj_alloc, Sem.run_bind]
theorem ok_alloc {t : TypeId} (K : TOk P E) (ho : o.op = .alloc t) : Ok P E o := by
  intro F w0 w N U T h ι a Q nx e R he hf
  simp only [exo, ho] at he
  split at he
  case h_2 => exact he.elim
  rename_i I hI
  have he' : (D.v (.r .p) () [.p nx], [(nx, .o I.ty (dfl I.ty) (drs I.ty))], nx + 1) = e := he
  subst he'
  obtain ⟨i, z, hi, hz, hs, hw, hag, hzc⟩ := zero_cells (tok_base K hI).1
  have hn : ¬ U nx := hf nx (Nat.le_refl _) (Nat.lt_succ_self _)
  refine .inr ⟨by simp, ?_⟩
  unfold Oper.wp
  have run : (execOp a.eval o).run P w = .ok (.value (.pointer (some ⟨w.heap.size, 0, none⟩))) (w.alloc (.cells z.cells t)) := by
    simp [execOp, ho, Instr.alloc, zeroValue, typeInfo, hi, hz, run_newVar, Sem.run_bind]
  rw [run, Oper.upon_value]
  exact nx_alloc R hn (wf_dfl _ hw).1 (wf_dfl _ hw).2 (by rw [hzc]; exact zero_all2 hw) o.dst
theorem ok_box {t : TypeId} {x : Operand} (ho : o.op = .box t x) : Ok P E o := by
  intro F w0 w N U T h ι a Q nx e R he hf
  simp only [exo, ho] at he
  split at he
  case h_2 => exact he.elim
  rename_i u y rs ex
  split at he
  case isFalse => exact he.elim
  have he' : (D.v (.r .p) () [.p nx], [(nx, .o u y rs)], nx + 1) = e := he
  subst he'
  have hx := dr_ev R x
  rw [ex] at hx
  have hn : ¬ U nx := hf nx (Nat.le_refl _) (Nat.lt_succ_self _)
  refine .inr ⟨by simp, ?_⟩
  unfold Oper.wp
  have run : (execOp a.eval o).run P w = .ok (.value (.pointer (some ⟨w.heap.size, 0, none⟩))) (w.alloc (.cells (a.eval x).cells t)) := by
    simp [execOp, ho, Instr.box, run_newVar, Sem.run_bind]
  rw [run, Oper.upon_value]
  exact nx_alloc R hn hx.1 hx.2.1 hx.2.2.2 o.dst
theorem ok_range {t : TypeId} {x : Operand} (K : TOk P E) (ho : o.op = .range t x) : Ok P E o := by
  intro F w0 w N U T h ι a Q nx e R he hf
  simp only [exo, ho] at he
  split at he
  case h_2 => exact he.elim
  rename_i s rs ex
  split at he
  case isFalse => exact he.elim
  rename_i ht
  have he' : (D.it nx, [(nx, .it s 0)], nx + 1) = e := he
  subst he'
  have hx := dr_ev R x
  rw [ex] at hx
  obtain ⟨hv, _⟩ := dr_s hx
  have hn : ¬ U nx := hf nx (Nat.le_refl _) (Nat.lt_succ_self _)
  refine .inr ⟨by simp, ?_⟩
  unfold Oper.wp
  have run : (execOp a.eval o).run P w = .ok (.value (.pointer (some ⟨w.heap.size, 0, none⟩))) (w.alloc (.stringIter s 0)) := by
    simp [execOp, ho, Instr.range, run_underlying (tok_string K ht), hv, run_newObj_alloc, Sem.run_bind]
  rw [run, Oper.upon_value]
  show Nx _ _ _ ⟨U, h, ι⟩ (addU U [(nx, .it s 0)]) _ (updH h [(nx, .it s 0)]) _ _
  rw [addU_new, updH_new]
  refine ⟨iNew ι nx (some (w.heap.size, 0, 0)), ?_⟩
  have R' := Rel.gen R hn (.it s 0) (some (w.heap.size, 0, 0)) none (fun b hb => by cases hb) (grow_alloc (.stringIter s 0)) (fun g oo c hg => by simp at hg; exact .inl (by omega)) (by
    unfold BR
    simp only [hNew, if_neg (show ¬ (none : Option Nat) = some nx by simp), if_pos rfl]
    exact ⟨w.heap.size, 0, by simp [iNew], heap_alloc_new w _⟩)
  exact ⟨R'.put o.dst ⟨.inr rfl, fun _ => ⟨w.heap.size, 0, by simp [iNew], rfl⟩⟩, ext_new (h := h) (ι := ι) hn _ _ none⟩
end
end Go.AM
end
