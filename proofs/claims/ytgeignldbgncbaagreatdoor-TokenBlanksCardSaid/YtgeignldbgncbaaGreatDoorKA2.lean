/- Structs and arrays out of their parts. -/
import Derived.Test.YtgeignldbgncbaaGreatDoorKA1
import Derived.Lib.OthersKept
import Derived.Laws.Cover4
import Derived.Laws.BytesString
import Derived.StillTail
import Derived.Deep.Quiet
section
set_option linter.constructorNameAsVariable false
set_option linter.unusedVariables false
set_option linter.unusedSimpArgs false
set_option linter.unnecessarySimpa false
namespace Go.AM
section
variable {P : Program} {F : Nat → Prop} {w0 w w' : World} {N : Nat} {U : Nat → Prop} {T : Nat → D} {h : Nat → Blk} {ι : Nat → Option (Nat × Nat × Nat)} {a : Act} {Q : Exit → Act → World → Prop} {E : Env} {o : Oper} {nx : Nat} {e : Eff} {M M' : Wd}
theorem el_key {t : TypeId} {I : TI} {j : Nat} (K : TOk P E) (hI : E.ti t = some I) {bk : Blk} {q q' : List Stp} {off : Nat} (hpb : PB bk q off I.ty) (hj : j < I.n) (hq' : elq I j q = some q') :
    ∃ el i u', P.underlying t = some (.array I.n el) ∧ P.info? el = some i ∧ PB bk q' (off + j * i.size) u' ∧ u'.sz = i.size := by
  unfold elq at hq'
  cases hty : I.ty with
  | l n u =>
    rw [hty] at hq'
    simp at hq'; subst hq'
    obtain ⟨el, i, d, hu, hn, hi, hd, hs, hag⟩ := tok_array K hI hty
    have hsz : u.sz = i.size := by rw [← hs, szT_info hi]
    rw [hn]
    refine ⟨el, i, u, hu, hi, ?_, hsz⟩
    rw [← hsz]
    refine pb_app hpb (off' := j * u.sz) (u' := u) ?_ (by rw [hty]; simp)
    rw [hty]
    exact ⟨by omega, 0, by simp, by cases u <;> exact ⟨rfl, rfl⟩⟩
  | a k n =>
    rw [hty] at hq'
    simp at hq'; subst hq'
    obtain ⟨el, i, d, hu, hi, hd, hs, hes, hag, hN⟩ := tok_arrayA K hI hty (by omega)
    have hsz : i.size = I.esz := by rw [← szT_info hi, hs]
    refine ⟨el, i, subT k I.el, hu, hi, ?_, by rw [hsz, hes]; cases I.el <;> rfl⟩
    rw [hsz]
    refine pb_into (k := k) (n := n) (by rw [← hty]; exact hpb) ?_ ?_
    · rw [← hes, hN]
      calc j * I.esz + I.esz = (j + 1) * I.esz := by rw [Nat.add_mul]; omega
        _ ≤ I.n * I.esz := Nat.mul_le_mul_right _ hj
    · rw [esc_eq I j hes]; simp [addo_eq]
  | _ => rw [hty] at hq'; simp at hq'
theorem fold_cells (off : Nat) : ∀ (l : List Value) (k : Nat) (C : Array Value), off + k + l.length ≤ C.size →
    ((l.zipIdx k).foldl (fun cs p => cs.setIfInBounds (off + p.2) p.1) C).toList = C.toList.take (off + k) ++ (l ++ C.toList.drop (off + k + l.length))
  | [], k, C, h => by simp
  | v :: l, k, C, h => by
    simp only [List.length_cons] at h
    rw [List.zipIdx_cons, List.foldl_cons, fold_cells off l (k + 1) _ (by simp; omega), Array.toList_setIfInBounds]
    have hol : off + k < C.toList.length := by simp; omega
    rw [set_split _ _ _ hol]
    have lt : (C.toList.take (off + k) ++ [v]).length = off + (k + 1) := by rw [List.length_append, List.length_take, Nat.min_eq_left (by omega)]; rfl
    have e : C.toList.take (off + k) ++ v :: C.toList.drop (off + k + 1) = (C.toList.take (off + k) ++ [v]) ++ C.toList.drop (off + k + 1) := by simp
    rw [e, List.take_left' lt, ← List.drop_drop, List.drop_left' lt, List.drop_drop, List.length_cons]
    have e2 : off + k + 1 + l.length = off + k + (l.length + 1) := by omega
    rw [e2]
    simp
theorem fill_step {place : Nat → Option (Nat × Nat)} {C : Array Value} {i off size : Nat} {v : Value} {rest : List (Nat × Value)} (hp : place i = some (off, size)) (hs : v.cells.size = size) (hb : off + size ≤ C.size) :
    ∃ C' : Array Value, Instr.fill place C ((i, v) :: rest) = Instr.fill place C' rest ∧ C'.toList = C.toList.take off ++ (v.cells.toList ++ C.toList.drop (off + size)) := by
  refine ⟨v.cells.zipIdx.foldl (fun cs (c, j) => cs.setIfInBounds (off + j) c) C, ?_, ?_⟩
  · have : ¬ (v.cells.size ≠ size || decide (off + v.cells.size > C.size)) = true := by simp [hs]; omega
    simp only [Instr.fill, hp]
    rw [if_neg]
    simp [hs]; omega
  · have := fold_cells off v.cells.toList 0 C (by simp [hs]; omega)
    rw [← Array.foldl_toList]
    simp only [Nat.add_zero, Array.length_toList, hs] at this
    rw [← this]
    congr 1
    simp
/-- What is built so far. -/
def Bt (M : Wd) (t : Ty) (d : D) (C : Array Value) : Prop := ∃ x rs, d = .v t x rs ∧ wf t x ∧ rs.length = t.nr ∧ All2 (CR M) (cs t x rs) C.toList
theorem bt_part {t : Ty} {x : t.den} {rs : List Ref} {q : List Stp} {off : Nat} {u : Ty} {p : D} {v : Value} {r : t.den × List Ref} {C : Array Value} (hw : wf t x) (hr : rs.length = t.nr) (hC : All2 (CR M) (cs t x rs) C.toList) (hp : Pth t q off u) (hu : upd t x rs q p = some r) (hv : DR M p v) :
    v.cells.size = u.sz ∧ off + u.sz ≤ C.size ∧ ∀ C' : Array Value, C'.toList = C.toList.take off ++ (v.cells.toList ++ C.toList.drop (off + u.sz)) → Bt M t (.v t r.1 r.2) C' := by
  obtain ⟨y, rs', rfl, hh⟩ := upd_ok t x rs q off u p r hw hr hp hu
  obtain ⟨w1, w2, pre, mid, post, w3, w4, w5, w6⟩ := hh hv.1 hv.2.1
  obtain ⟨P1, M1, Q1, hCC, l1, a1, a2, a3⟩ := all2_part w3 hC
  have lm := a2.length
  have lP : P1.length = off := by rw [l1, w4]
  have lM : M1.length = u.sz := by rw [← lm, w5]
  refine ⟨sz_cells hv, ?_, fun C' hC' => ⟨r.1, r.2, rfl, w1, w2, ?_⟩⟩
  · have := congrArg List.length hCC
    simp only [List.length_append, Array.length_toList] at this
    omega
  · have e : C'.toList = P1 ++ (v.cells.toList ++ Q1) := by
      rw [hC', hCC, List.take_left' lP, ← List.drop_drop, List.drop_left' lP, List.drop_left' lM]
    rw [e, w6]
    exact a1.append (hv.2.2.2.append a3)
theorem mapM_some {α β : Type} (f : α → Option β) (g : α → β) : ∀ (l : List α), (∀ x ∈ l, f x = some (g x)) → l.mapM f = some (l.map g)
  | [], _ => rfl
  | x :: l, h => by
    rw [List.mapM_cons, h x (by simp), mapM_some f g l fun y hy => h y (by simp [hy])]
    rfl
/-- What one part does. -/
def Step (M : Wd) (I : TI) (place : Nat → Option (Nat × Nat)) : Prop :=
  ∀ (d d2 p : D) (C : Array Value) (j : Nat) (v : Value), Bt M I.ty d C → DR M p v → putPart I d j p = some d2 →
    ∃ off size, place j = some (off, size) ∧ v.cells.size = size ∧ off + size ≤ C.size ∧ ∀ C' : Array Value, C'.toList = C.toList.take off ++ (v.cells.toList ++ C.toList.drop (off + size)) → Bt M I.ty d2 C'
theorem build_fill {I : TI} {place : Nat → Option (Nat × Nat)} (st : Step M I place) : ∀ (ps : List (Nat × D)) (vs : List (Nat × Value)) (d d2 : D) (C : Array Value), ps.length = vs.length → (∀ (i j : Nat) (p : D) (v : Nat × Value), ps[i]? = some (j, p) → vs[i]? = some v → v.1 = j ∧ DR M p v.2) → Bt M I.ty d C →
    ps.foldl (fun d p => match d with | some d => putPart I d p.1 p.2 | none => none) (some d) = some d2 → ∃ C', Instr.fill place C vs = some C' ∧ Bt M I.ty d2 C'
  | [], [], d, d2, C, _, _, hb, hf => by simp at hf; subst hf; exact ⟨C, rfl, hb⟩
  | (j, p) :: ps, (j', v) :: vs, d, d2, C, hl, hd, hb, hf => by
    obtain ⟨e, hv⟩ := hd 0 j p (j', v) rfl rfl
    simp only at e; subst e
    rw [List.foldl_cons] at hf
    have none : ∀ l : List (Nat × D), l.foldl (fun d p => match d with | some d => putPart I d p.1 p.2 | none => none) none = (none : Option D) := by
      intro l; induction l with | nil => rfl | cons _ _ ih => simpa using ih
    cases hpp : putPart I d j' p with
    | none => simp only [hpp] at hf; rw [none] at hf; cases hf
    | some d1 =>
      simp only [hpp] at hf
      obtain ⟨off, size, h1, h2, h3, h4⟩ := st d d1 p C j' v hb hv hpp
      obtain ⟨C1, h5, h6⟩ := fill_step (C := C) (rest := vs) h1 h2 h3
      rw [h5]
      exact build_fill st ps vs d1 d2 C1 (by simpa using hl) (fun i j p v h1 h2 => hd (i + 1) j p v (by simpa using h1) (by simpa using h2)) (h4 C1 h6) hf
  | [], _ :: _, _, _, _, h, _, _, _ => by simp at h
  | _ :: _, [], _, _, _, h, _, _, _ => by simp at h
theorem put_cases {I : TI} {d d2 p : D} {j : Nat} (h : putPart I d j p = some d2) : ∃ t x rs q r, d = .v t x rs ∧ d2 = .v t r.1 r.2 ∧ upd t x rs q p = some r ∧ (fldq I j [] = some q ∨ (fldq I j [] = none ∧ j < I.n ∧ elq I j [] = some q)) := by
  unfold putPart at h
  split at h
  case h_2 => cases h
  rename_i t x rs
  split at h
  · rename_i q hq
    rw [Option.map_eq_some_iff] at h
    obtain ⟨r, hr, rfl⟩ := h
    exact ⟨t, x, rs, q, r, rfl, rfl, hr, .inl hq⟩
  · rename_i hq0
    split at h
    · rename_i hj
      split at h
      · rename_i q hq
        rw [Option.map_eq_some_iff] at h
        obtain ⟨r, hr, rfl⟩ := h
        exact ⟨t, x, rs, q, r, rfl, rfl, hr, .inr ⟨hq0, hj, hq⟩⟩
      · cases h
    · cases h
theorem step_struct {t : TypeId} {I : TI} (K : TOk P E) (hI : E.ti t = some I) {fs : Array Field} (hu : P.underlying t = some (.struct fs)) (places : List (Nat × Nat)) (hp : places = fs.toList.map fun f => (f.offset, szT P f.type)) : Step M I (places.toArray[·]?) := by
  intro d d2 p C j v hb hv hpp
  obtain ⟨x, rs, rfl, hw, hr, hC⟩ := hb
  obtain ⟨t', x', rs', q, r, e, rfl, hupd, hq⟩ := put_cases hpp
  simp only [D.v.injEq] at e
  obtain ⟨rfl, e, rfl⟩ := e
  cases e
  have hpb : PB (.o I.ty x rs) [] 0 I.ty := by show Pth I.ty [] 0 I.ty; cases I.ty <;> exact ⟨rfl, rfl⟩
  rcases hq with hq | ⟨_, hj, hq⟩
  · obtain ⟨fs', f, i, u', h1, h2, h3, h4, h5, h6⟩ := fld_key K hI hpb hq
    rw [hu] at h1
    simp only [Option.some.injEq, TypeDesc.struct.injEq] at h1
    subst h1
    have h5' : Pth I.ty q f.offset u' := by have : PB (.o I.ty x rs) q (0 + f.offset) u' := h5; rw [Nat.zero_add] at this; exact this
    obtain ⟨g1, g2, g3⟩ := bt_part hw hr hC h5' hupd hv
    refine ⟨f.offset, u'.sz, ?_, g1, g2, g3⟩
    have h2' : fs.toList[j]? = some f := by rw [Array.getElem?_toList]; exact h2
    simp only [hp, List.getElem?_toArray, List.getElem?_map, h2', Option.map_some, szT_info h3, h6]
  · obtain ⟨el, i, u', h1, _⟩ := el_key K hI hpb hj hq
    rw [hu] at h1; cases h1
theorem step_array {t : TypeId} {I : TI} (K : TOk P E) (hI : E.ti t = some I) {m : Nat} {el : TypeId} {i : TypeInfo} (hu : P.underlying t = some (.array m el)) (hi : P.info? el = some i) : Step M I (fun j => some (j * i.size, i.size)) := by
  intro d d2 p C j v hb hv hpp
  obtain ⟨x, rs, rfl, hw, hr, hC⟩ := hb
  obtain ⟨t', x', rs', q, r, e, rfl, hupd, hq⟩ := put_cases hpp
  simp only [D.v.injEq] at e
  obtain ⟨rfl, e, rfl⟩ := e
  cases e
  have hpb : PB (.o I.ty x rs) [] 0 I.ty := by show Pth I.ty [] 0 I.ty; cases I.ty <;> exact ⟨rfl, rfl⟩
  rcases hq with hq | ⟨_, hj, hq⟩
  · obtain ⟨fs', f, i, u', h1, _⟩ := fld_key K hI hpb hq
    rw [hu] at h1; cases h1
  · obtain ⟨el', i', u', h1, h3, h5, h6⟩ := el_key K hI hpb hj hq
    rw [hu] at h1
    simp only [Option.some.injEq, TypeDesc.array.injEq] at h1
    obtain ⟨_, rfl⟩ := h1
    rw [hi] at h3; cases h3
    have h5' : Pth I.ty q (j * i.size) u' := by have : PB (.o I.ty x rs) q (0 + j * i.size) u' := h5; rw [Nat.zero_add] at this; exact this
    obtain ⟨g1, g2, g3⟩ := bt_part hw hr hC h5' hupd hv
    exact ⟨j * i.size, u'.sz, by rw [h6], g1, g2, g3⟩
theorem ok_build {t : TypeId} {ps : Array (Nat × Operand)} (K : TOk P E) (ho : o.op = .build t ps) : Ok P E o := by
  intro F w0 w N U T h ι a Q nx e R he _
  simp only [exo, ho] at he
  obtain ⟨d, hd, rfl⟩ := to_ofo he
  unfold buildD at hd
  split at hd
  case h_2 => cases hd
  rename_i I hI
  split at hd
  case isFalse => cases hd
  rename_i hagt0
  obtain ⟨hz, hag, hdeep, _, du, hdu⟩ := tok_base K hI
  obtain ⟨i, z, hi, hzz, hs, hw, hzag, hzc⟩ := zero_cells hz
  have hb0 : Bt ⟨U, h, ι⟩ I.ty (.v I.ty (dfl I.ty) (drs I.ty)) z.cells := ⟨_, _, rfl, (wf_dfl _ hw).1, (wf_dfl _ hw).2, by rw [hzc]; exact zero_all2 hw⟩
  have hvs : ∀ (i j : Nat) (p : D) (v : Nat × Value), (ps.toList.map fun p => (p.1, ev T p.2))[i]? = some (j, p) → (ps.toList.map fun p => (p.1, a.eval p.2))[i]? = some v → v.1 = j ∧ DR ⟨U, h, ι⟩ p v.2 := by
    intro i j p v h1 h2
    rw [List.getElem?_map] at h1 h2
    cases hx : ps.toList[i]? with
    | none => rw [hx] at h1; simp at h1
    | some x =>
      rw [hx] at h1 h2
      simp at h1 h2
      obtain ⟨rfl, rfl⟩ := h1
      subst h2
      exact ⟨rfl, dr_ev R x.2⟩
  have fin : ∀ C, P.built t (ps.map fun (i, x) => (i, a.eval x)).toList = some C → Bt ⟨U, h, ι⟩ I.ty d C → I.ty.ag = true → Goes P o a w F w0 N U T h ι (d, [], nx) Q := by
    intro C hC hb hagt
    obtain ⟨x, rs, rfl, h1, h2, h3⟩ := hb
    refine wp_val (v := .agg C) R ?_ ⟨h1, h2, by rw [hagt]; rfl, by simpa [Value.cells] using h3⟩
    have := run_build (P := P) w t _ C hC
    simp only [execOp, ho]
    exact run_v this
  have emap : (ps.map fun (i, x) => (i, a.eval x)).toList = ps.toList.map fun p => (p.1, a.eval p.2) := by simp
  cases du with
  | struct fs =>
    have hpl : fs.toList.mapM (fun f => (P.info? f.type).map fun i => (f.offset, i.size)) = some (fs.toList.map fun f => (f.offset, szT P f.type)) := mapM_some _ _ _ fun f hf => by
      obtain ⟨i, d, h1, _⟩ := tok_known K hI hdu hf
      rw [h1, szT_info h1]; rfl
    obtain ⟨C, hC, hb⟩ := build_fill (step_struct (M := ⟨U, h, ι⟩) K hI hdu _ rfl) _ (ps.toList.map fun p => (p.1, a.eval p.2)) _ d z.cells (by simp) hvs hb0 hd
    refine fin C ?_ hb (by rw [← hag]; simp [aggT, hdu, aggD])
    unfold Program.built
    simp only [hi, hdu, hzz, hpl, emap]
    exact hC
  | array m el =>
    have hel : ∃ i, P.info? el = some i := by
      have h5 := K.ti t I hI
      unfold tiOk at h5
      simp only [Bool.and_eq_true] at h5
      have h5 := h5.2
      rw [hdu] at h5
      cases hty : I.ty with
      | l n u =>
        rw [hty] at h5
        simp only [Bool.and_eq_true, known] at h5
        exact Option.isSome_iff_exists.1 h5.1.1.1.2.1
      | a k n =>
        rw [hty] at h5
        simp only [Bool.and_eq_true, known] at h5
        exact Option.isSome_iff_exists.1 h5.1.1.1.1.1.2.1
      | _ => rw [hty] at h5; simp at h5
    obtain ⟨ie, hie⟩ := hel
    obtain ⟨C, hC, hb⟩ := build_fill (step_array (M := ⟨U, h, ι⟩) K hI hdu hie) _ (ps.toList.map fun p => (p.1, a.eval p.2)) _ d z.cells (by simp) hvs hb0 hd
    refine fin C ?_ hb (by rw [← hag]; simp [aggT, hdu, aggD])
    unfold Program.built
    simp only [hi, hdu, hzz, hie, emap]
    exact hC
  | _ =>
    rw [hagt0] at hag
    simp [aggT, hdu, aggD] at hag
end
end Go.AM
end
/- Slices: written out, and appended to. -/
section
set_option linter.constructorNameAsVariable false
set_option linter.unusedVariables false
set_option linter.unusedSimpArgs false
set_option linter.unnecessarySimpa false
namespace Go.AM
section
variable {P : Program} {F : Nat → Prop} {w0 w w' : World} {N : Nat} {U : Nat → Prop} {T : Nat → D} {h : Nat → Blk} {ι : Nat → Option (Nat × Nat × Nat)} {a : Act} {Q : Exit → Act → World → Prop} {E : Env} {o : Oper} {nx : Nat} {e : Eff} {M M' : Wd}
theorem row_facts {b : Nat} {ee : TypeId} {t : Ty} {l : List t.den} {own : Bool} (hb : BR M w b) (hh : M.h b = .w ee t l own) : t.nr = 0 ∧ 0 < t.sz ∧ (∀ y ∈ l, wf t y) ∧ (M.ι b = none → l = []) := by
  unfold BR at hb
  rw [hh] at hb
  obtain ⟨h1, h2, h3, h4, h5⟩ := hb
  refine ⟨h1, h2, h3, fun hi => ?_⟩
  cases own with
  | true =>
    have h4 := h4 rfl
    rw [hi] at h4
    rcases h4.2 with ⟨_, h6⟩ | ⟨g, cap, cur, h6, _⟩
    · exact List.eq_nil_of_length_eq_zero h6
    · cases h6
  | false =>
    have h5 := h5 rfl
    rw [hi] at h5
    exact h5
theorem rowv_app {t : Ty} (l m : List t.den) : rowv t (l ++ m) = rowv t l ++ rowv t m := by simp [rowv]
/-- What a slice holds, as the world has it. -/
theorem dr_held {y : D} {v : Value} {u : Ty} {m : List u.den} (hd : DR M y v) (hh : heldBy M.h y = some ⟨u, m⟩) (bl : ∀ b, BR M w b) :
    u.nr = 0 ∧ 0 < u.sz ∧ (∀ z ∈ m, wf u z) ∧ ∃ A c, v = .slice A m.length c ∧ m.length ≤ c ∧ (m ≠ [] → ∃ g off, A = some ⟨g, off, none⟩ ∧ w.rangeAt g off (rowv u m)) := by
  unfold heldBy at hh
  split at hh
  · rename_i b
    split at hh
    · rename_i ee t l own hb
      simp only [Option.some.injEq, Sigma.mk.injEq] at hh
      obtain ⟨rfl, hh⟩ := hh
      cases hh
      obtain ⟨h1, h2, h3, h4⟩ := row_facts (bl b) hb
      obtain ⟨r, er, hr⟩ := dr_r hd
      simp at er; subst er
      obtain ⟨hu, hw⟩ := hr
      have := hw 1 t l.length (by simp [hb, shp])
      cases hi : M.ι b with
      | none =>
        rw [hi] at this
        obtain ⟨rfl, h0⟩ := this
        have hl := h4 hi
        subst hl
        exact ⟨h1, h2, h3, none, 0, rfl, by simp, fun h => absurd rfl h⟩
      | some p =>
        obtain ⟨g, oo, c⟩ := p
        rw [hi] at this
        obtain ⟨rfl, hc⟩ := this
        exact ⟨h1, h2, h3, some ⟨g, oo, none⟩, c, rfl, hc, fun _ => ⟨g, oo, rfl, row_range (bl b) hb hi⟩⟩
    · cases hh
  · rename_i b off n
    split at hh
    · rename_i ee t l own hb
      simp only [Option.some.injEq, Sigma.mk.injEq] at hh
      obtain ⟨rfl, hh⟩ := hh
      cases hh
      obtain ⟨h1, h2, h3, h4⟩ := row_facts (bl b) hb
      obtain ⟨hu, hw⟩ := hd
      obtain ⟨_, h5, A, c, rfl, h6, h7⟩ := hw 1 t l.length (by simp [hb, shp])
      have hdrp : drp off l = l.drop (off.getD 0) := by cases off <;> simp [drp]
      have hlen : ((drp off l).take n).length = n := by rw [hdrp, List.length_take, List.length_drop]; omega
      refine ⟨h1, h2, fun z hz => h3 z (by rw [hdrp] at hz; exact List.mem_of_mem_drop (List.mem_of_mem_take hz)), A, c, by rw [hlen], by rw [hlen]; exact h6, fun hne => ?_⟩
      rcases h7.old with h7 | ⟨g, oo, cap, hi, rfl⟩
      · exact absurd (by subst h7; simp) hne
      · refine ⟨g, oo + off.getD 0 * t.sz, rfl, range_sub (row_range (bl b) hb hi) (pre := rowv t (l.take (off.getD 0))) (post := rowv t ((l.drop (off.getD 0)).drop n)) ?_ ?_⟩
        · rw [hdrp, ← rowv_app, ← rowv_app, List.take_append_drop, List.take_append_drop]
        · rw [rowv_len _ (fun z hz => h3 z (List.mem_of_mem_take hz)), List.length_take, Nat.min_eq_left (by omega)]
    · cases hh
  · cases hh
  · cases hh
theorem rowv_one {t : Ty} (hn : t.nr = 0) (l : List t.den) (hw : ∀ y ∈ l, wf t y) : ∀ v ∈ rowv t l, v.oneCell' = true := by
  intro v hv
  unfold rowv at hv
  obtain ⟨y, hy, hv⟩ := List.mem_flatMap.1 hv
  have M0 : Wd := ⟨fun _ => True, fun _ => .de, fun _ => none⟩
  exact cs_one (M := M0) t y [] _ (all2_val _ (cs_allv t y [] hn (hw y hy))) v hv
/-- A new row in the place of an old one, or of none. -/
theorem run_append2 {t ty e : TypeId} {i : TypeInfo} {z : Value} {size : Nat} (ht : P.underlying t = some (.slice e)) (hi : P.info? e = some i) (hz : i.zero = some z) (hsize : i.size = size) (hzs : z.cells.size = size) (hsz : 0 < size) (hby : i.bytes ≤ 16384)
    {v : Value} {n : Nat} {xs : List Value} (hown : w.ownsRow 0 e size v n xs) {A : Option Addr} {m c : Nat} {news : List Value} (hl : news.length = m * size)
    (hnews : news ≠ [] → ∃ g off, A = some ⟨g, off, none⟩ ∧ w.rangeAt g off news) (h1 : ∀ u ∈ news, u.oneCell' = true) (hroom : n + m ≤ 8589934592) :
    ∃ v' w', (Builtin.append_ #[t, t] ty #[v, .slice A m c]).run P w = .ok v' w' ∧ w'.ownsRow 0 e size v' (n + m) (xs ++ news) ∧ w.grownBy w' v.ownBlock ∧ (∀ g, v'.ownBlock = some g → v.ownBlock = some g ∨ g = w.heap.size) := by
  by_cases hm : m = 0
  · subst hm
    have hn : news = [] := List.eq_nil_of_length_eq_zero (by simpa using hl)
    subst hn
    refine ⟨v, w, ?_, by simpa using hown, ⟨rfl, rfl, rfl, Nat.le_refl _, fun _ _ _ => rfl⟩, fun g hg => .inl hg⟩
    have hf : ∀ k, (Builtin.firstCells k 0 (.slice A 0 c)).run P w = .ok #[] w := by
      intro k
      cases A <;> simp [Builtin.firstCells, loadCells, loadCellsFrom]
    rcases hown.2 with ⟨rfl, rfl⟩ | ⟨g, cap, cur, rfl, _, hg, hnc, _⟩
    · simp [Builtin.append_, run_underlying ht, sizeOf, typeInfo, hi, Builtin.lenOf, hf]
    · simp [Builtin.append_, run_underlying ht, sizeOf, typeInfo, hi, Builtin.lenOf, hf, hnc, storeCells]
  · have hne : news ≠ [] := by
      intro e; subst e
      have := Nat.mul_pos (Nat.pos_of_ne_zero hm) hsz
      rw [List.length_nil] at hl
      omega
    obtain ⟨g0, off0, rfl, hr0⟩ := hnews hne
    have hcell : ∀ j u, news[j]? = some u → w.cell? ((⟨g0, off0, none⟩ : Addr).add j) = some u := fun j u hj => by rw [Addr.add_mid]; exact hr0 j u hj
    have h63 : n + m ≤ maxLen := by unfold maxLen; omega
    have hbytes : (n + m) * i.bytes ≤ 140737488355328 := by
      calc (n + m) * i.bytes ≤ 8589934592 * 16384 := Nat.mul_le_mul hroom hby
        _ = 140737488355328 := by decide
    obtain ⟨v', w', hrun, ho, hg, _⟩ := run_append_own (P := P) w 0 t ty e i z size i.bytes ht hi hz hsize rfl hzs hsz v n xs hown ⟨g0, off0, none⟩ m c news hl hcell h1 h63 hbytes (Nat.zero_le _)
    refine ⟨v', w', hrun, ho, hg, fun g hgo => ?_⟩
    subst hsize
    rcases hown.2 with ⟨rfl, rfl⟩ | ⟨g1, cap, cur, rfl, hbg, hgg, hnc, hcm, hcs, htake⟩
    · have hr := run_append_nil (P := P) w t ty e i z ht hi hz ⟨g0, off0, none⟩ m c news hl hcell (by omega) (by unfold maxLen at h63; omega) (by have hb := hbytes; simp only [Nat.zero_add] at hb; omega)
      rw [hrun] at hr
      simp only [Result.ok.injEq] at hr
      rw [hr.1] at hgo
      simp [Value.ownBlock] at hgo
      exact .inr hgo.symm
    · by_cases hroom2 : n + m ≤ cap
      · have hfit : n * i.size + news.length ≤ cur.size := by rw [hl, hcs, ← Nat.add_mul]; exact Nat.mul_le_mul_right _ hroom2
        have hr := run_append_room (P := P) w t ty e i ht hi g1 n cap cur hgg ⟨g0, off0, none⟩ m c news hl hcell h1 hroom2 hfit
        rw [hrun] at hr
        simp only [Result.ok.injEq] at hr
        rw [hr.1] at hgo
        exact .inl hgo
      · have holds : ∀ j u, xs[j]? = some u → w.cell? ((⟨g1, 0, none⟩ : Addr).add j) = some u := hown.cells (g := g1) rfl
        have hr := run_append_grow (P := P) w t ty e i z ht hi hz ⟨g1, 0, none⟩ n cap xs hown.1 holds ⟨g0, off0, none⟩ m c news hl hcell (by omega) (by unfold maxLen at h63; omega) (growslice_fits (by omega) hbytes)
        rw [hrun] at hr
        simp only [Result.ok.injEq] at hr
        rw [hr.1] at hgo
        simp [Value.ownBlock] at hgo
        exact .inr hgo.symm
theorem tok_elem (K : TOk P E) {t : TypeId} {I : TI} (hI : E.ti t = some I) (hty : I.ty = .r .s) : ∃ i z, P.info? I.e = some i ∧ i.zero = some z ∧ i.size = I.et.sz ∧ z.cells.size = I.et.sz ∧ i.bytes ≤ 16384 ∧ P.underlying t = some (.slice I.e) ∧ I.et.nr = 0 ∧ 0 < I.et.sz := by
  obtain ⟨hu, hnr, hsz, hsT, hag, ⟨i, d, hi, hd, hs, hb0, hb1⟩, hz⟩ := tok_slice K hI hty
  obtain ⟨i', z, hi', hzz, hs', hw, _, hzc⟩ := zero_cells hz
  rw [hi] at hi'; cases hi'
  refine ⟨i, z, hi, hzz, hs, ?_, hb1, hu, hnr, hsz⟩
  have := congrArg List.length hzc
  rw [List.length_map, cs_len _ _ _ (wf_dfl _ hw).1] at this
  simpa using this
theorem room_le {n : Int} (h : room n = true) : n ≤ 8589934592 := by
  unfold room at h
  cases n with
  | ofNat k => simp only [Nat.ble_eq] at h; simp only [Int.ofNat_eq_natCast]; omega
  | negSucc k => omega
/-- The row behind an append. -/
theorem nx_row (R : Rel F w0 N ⟨U, h, ι⟩ T a w) (hn : ¬ U nx) {ee : TypeId} {t : Ty} {l : List t.den} {v v' : Value} {dead : Option Nat} (hnr : t.nr = 0) (hsz : 0 < t.sz) (hwf : ∀ y ∈ l, wf t y)
    (hd : ∀ b, dead = some b → U b ∧ mutb (h b) = true ∧ ∀ g oo c, ι b = some (g, oo, c) → v.ownBlock = some g) (hd0 : ∀ g, v.ownBlock = some g → ∃ b oo c, dead = some b ∧ ι b = some (g, oo, c))
    (ho : w'.ownsRow 0 ee t.sz v' l.length (rowv t l)) (hg : w.grownBy w' v.ownBlock) (hb : ∀ g, v'.ownBlock = some g → v.ownBlock = some g ∨ g = w.heap.size) (dst : Option Nat) :
    ∃ ι', Rel F w0 N ⟨uNew U nx, hNew h nx (.w ee t l true) dead, ι'⟩ (putT N T dst (.v (.r .s) () [.w nx])) (a.put dst v') w' ∧ Ext ⟨U, h, ι⟩ ⟨uNew U nx, hNew h nx (.w ee t l true) dead, ι'⟩ := by
  have hdn : dead ≠ some nx := fun e => hn (hd nx e).1
  have hgr : Grow ι dead w w' := ⟨hg.os, hg.tape, hg.output, hg.size, fun j hj hne => hg.block j hj fun e => by
    obtain ⟨b, oo, c, h1, h2⟩ := hd0 j e.symm
    exact hne b oo c h1 h2⟩
  rcases ho.2 with ⟨e, h0⟩ | ⟨g, cap, cur, e, _, hgg, hnc, _⟩
  · subst e
    have hl : l = [] := List.eq_nil_of_length_eq_zero h0
    have R' := Rel.gen R hn (.w ee t l true) none dead (fun b e => ⟨(hd b e).1, (hd b e).2.1⟩) hgr (fun g oo c hg => by cases hg) (by
      unfold BR
      simp only [hNew, if_neg hdn, if_pos rfl]
      refine ⟨hnr, hsz, hwf, fun _ => ?_, fun h => by simp at h⟩
      simp only [iNew, if_pos rfl]
      rw [h0] at ho
      rw [h0]; exact ho)
    refine ⟨_, R'.put dst ⟨trivial, rfl, rfl, ⟨⟨.inr rfl, fun k t' n hk => ?_⟩, rfl⟩, trivial⟩, ext_new hn _ _ dead⟩
    simp only [hNew, if_neg hdn, if_pos rfl, shp, Option.some.injEq, Prod.mk.injEq] at hk
    obtain ⟨_, _, rfl⟩ := hk
    simp only [iNew, if_pos rfl]
    exact ⟨by first | rfl | trivial, h0⟩
  · subst e
    have R' := Rel.gen R hn (.w ee t l true) (some (g, 0, cap)) dead (fun b e => ⟨(hd b e).1, (hd b e).2.1⟩) hgr (fun g' oo c hg' => by
      simp only [Option.some.injEq, Prod.mk.injEq] at hg'
      obtain ⟨rfl, _, _⟩ := hg'
      rcases hb g rfl with h1 | h1
      · obtain ⟨b, oo, c, h2, h3⟩ := hd0 g h1
        exact .inr ⟨b, oo, c, h2, h3⟩
      · exact .inl (by omega)) (by
      unfold BR
      simp only [hNew, if_neg hdn, if_pos rfl]
      refine ⟨hnr, hsz, hwf, fun _ => ?_, fun h => by simp at h⟩
      simp only [iNew, if_pos rfl]
      exact ho)
    refine ⟨_, R'.put dst ⟨trivial, rfl, rfl, ⟨⟨.inr rfl, fun k t' n hk => ?_⟩, rfl⟩, trivial⟩, ext_new hn _ _ dead⟩
    simp only [hNew, if_neg hdn, if_pos rfl, shp, Option.some.injEq, Prod.mk.injEq] at hk
    obtain ⟨_, _, rfl⟩ := hk
    simp only [iNew, if_pos rfl]
    exact ⟨by first | rfl | trivial, hnc⟩
theorem ok_append {args : Array Operand} {ts : Array TypeId} (K : TOk P E) (ho : o.op = .call { callee := .builtin .append, args := args, argTypes := ts }) : Ok P E o := by
  intro F w0 w N U T h ι a Q nx e R he hf
  simp only [exo, ho] at he
  split at he
  case isFalse => exact he.elim
  rename_i hok
  simp only [okT, Bool.and_eq_true, beq_iff_eq] at hok
  obtain ⟨h2, hts⟩ := hok
  unfold builtinD at he
  have hargs : ∃ x y, args.toList.map (ev T) = [ev T x, ev T y] ∧ args = #[x, y] := by
    match hh : args.toList with
    | [x, y] => exact ⟨x, y, rfl, by apply Array.toList_inj.1; rw [hh]⟩
    | [] => rw [hh] at he; exact he.elim
    | [_] => rw [hh] at he; exact he.elim
    | _ :: _ :: _ :: _ => rw [hh] at he; exact he.elim
  obtain ⟨x, y, harg, rfl⟩ := hargs
  rw [harg] at he
  have he : (appendD E nx (ts.getD 0 0) h (ev T x) (ev T y)).to e := he
  obtain ⟨t0, hts'⟩ : ∃ t0, ts = #[t0, t0] := by
    have h3 := hts
    match hh : ts.toList with
    | [p, q] =>
      have e : ts = #[p, q] := by apply Array.toList_inj.1; rw [hh]
      subst e
      simp at h3; subst h3
      exact ⟨p, rfl⟩
    | [] => have : ts.size = 0 := by rw [← Array.length_toList, hh]; rfl
            omega
    | [_] => have : ts.size = 1 := by rw [← Array.length_toList, hh]; rfl
             omega
    | _ :: _ :: _ :: l => have : ts.size = l.length + 3 := by rw [← Array.length_toList, hh]; rfl
                          omega
  subst hts'
  simp only [Array.getD_eq_getD_getElem?, List.getElem?_toArray, List.getElem?_cons_zero, Option.getD_some] at he
  unfold appendD at he
  split at he
  · exact he.elim
  rename_i I hI
  split at he
  case isFalse => exact he.elim
  rename_i hty
  obtain ⟨i, z, hi, hz, hs, hzs, hby, hu, hnr, hsz⟩ := tok_elem K hI hty
  split at he
  · exact he.elim
  rename_i u m hheld
  split at he
  · exact he.elim
  rename_i m' hcst
  obtain ⟨e1, e2⟩ := cst_some hcst
  simp only [Ty.l.injEq, true_and] at e1
  subst e1
  cases e2
  obtain ⟨_, _, hwm, A, c, hvy, hmc, hra⟩ := dr_held (M := ⟨U, h, ι⟩) (dr_ev R y) hheld R.bl
  have hone := rowv_one hnr m hwm
  have hlm := rowv_len m hwm
  have exe : ∀ v' w', (Builtin.append_ #[t0, t0] o.type #[a.eval x, a.eval y]).run P w = .ok v' w' → (execOp a.eval o).run P w = .ok (.value v') w' := by
    intro v' w' hr
    simp only [execOp, ho, resolve, invoke, builtin]
    simp [Sem.run_bind, hr]
  split at he
  · -- onto a row
    rename_i b ex
    split at he
    case h_2 => exact he.elim
    rename_i ee t l hb
    split at he
    case isFalse => exact he.elim
    rename_i hee
    subst hee
    split at he
    case h_2 => exact he.elim
    rename_i l' hcst2
    obtain ⟨e1, e2⟩ := cst_some hcst2
    simp only [Ty.l.injEq, true_and] at e1
    subst e1
    cases e2
    obtain ⟨hroom, he⟩ := to_chk he
    have he' : (D.v (.r .s) () [.w nx], [(nx, Blk.w I.e I.et (l ++ m) true), (b, .de)], nx + 1) = e := he
    subst he'
    have hle := room_le hroom
    have hx := dr_ev R x
    rw [ex] at hx
    obtain ⟨r, er, hr⟩ := dr_r hx
    simp at er; subst er
    obtain ⟨hU, hw⟩ := hr
    have hwb := hw 1 I.et l.length (by simp [hb, shp])
    have hbr := R.bl b
    unfold BR at hbr
    simp only [hb] at hbr
    obtain ⟨_, _, hwl, hown, _⟩ := hbr
    have hown := hown (by trivial)
    have hv : a.eval x = (match ι b with | none => .slice none 0 0 | some (g, o, c) => .slice (some ⟨g, o, none⟩) l.length c) := by
      cases hi : ι b with
      | none => simp only [hi] at hwb; exact hwb.1
      | some p => obtain ⟨g, oo, c⟩ := p; simp only [hi] at hwb; exact hwb.1
    have hown : w.ownsRow 0 I.e I.et.sz (a.eval x) l.length (rowv I.et l) := by
      cases hi : ι b with
      | none => simp only [hi] at hown hv; rw [hv]; exact hown
      | some p => obtain ⟨g, oo, c⟩ := p; simp only [hi] at hown hv; rw [hv]; exact hown
    obtain ⟨v', w', r1, r2, r3, r4⟩ := run_append2 (P := P) (w := w) (ty := o.type) hu hi hz hs hzs hsz hby hown (A := A) (m := m.length) (c := c) hlm (fun hne => hra (fun e => hne (by subst e; rfl))) hone (by
      have : ((l.length : Int) + (m.length : Int)) ≤ 8589934592 := hle
      omega)
    refine .inr ⟨by simp, ?_⟩
    unfold Oper.wp
    rw [exe v' w' (by rw [hvy]; exact r1), Oper.upon_value]
    have hn : ¬ U nx := hf nx (Nat.le_refl _) (Nat.lt_succ_self _)
    show Nx F w0 N ⟨U, h, ι⟩ (addU U [(nx, Blk.w I.e I.et (l ++ m) true), (b, .de)]) _ (updH h [(nx, Blk.w I.e I.et (l ++ m) true), (b, .de)]) _ _
    rw [addU_new2 _ hU, updH_new2]
    refine nx_row R hn (v := a.eval x) (dead := some b) hnr hsz (fun y hy => ?_) (fun b' hb' => ?_) (fun g hg => ?_) (by rw [List.length_append, rowv_app]; exact r2) r3 r4 o.dst
    · rcases List.mem_append.1 hy with hy | hy
      · exact hwl y hy
      · exact hwm y hy
    · cases hb'
      refine ⟨hU, by rw [hb]; rfl, fun g oo c hi => ?_⟩
      rw [hv, hi]; rfl
    · rw [hv] at hg
      cases hi : ι b with
      | none => rw [hi] at hg; simp [Value.ownBlock] at hg
      | some p => obtain ⟨g', oo, c⟩ := p; rw [hi] at hg; simp [Value.ownBlock] at hg; subst hg; exact ⟨b, oo, c, rfl, hi⟩
  · -- onto none
    rename_i ex
    obtain ⟨hroom, he⟩ := to_chk he
    have he' : (D.v (.r .s) () [.w nx], [(nx, Blk.w I.e I.et m true)], nx + 1) = e := he
    subst he'
    have hle := room_le hroom
    have hx := dr_ev R x
    rw [ex] at hx
    obtain ⟨r, er, hr⟩ := dr_r hx
    simp at er; subst er
    have hv : a.eval x = .slice none 0 0 := hr
    obtain ⟨v', w', r1, r2, r3, r4⟩ := run_append2 (P := P) (w := w) (ty := o.type) (v := .slice none 0 0) (n := 0) (xs := []) hu hi hz hs hzs hsz hby (World.ownsRow_nil w 0 I.e I.et.sz) (A := A) (m := m.length) (c := c) hlm (fun hne => hra (fun e => hne (by subst e; rfl))) hone (by
      have : ((m.length : Int)) ≤ 8589934592 := hle
      omega)
    refine .inr ⟨by simp, ?_⟩
    unfold Oper.wp
    rw [exe v' w' (by rw [hvy, hv]; exact r1), Oper.upon_value]
    have hn : ¬ U nx := hf nx (Nat.le_refl _) (Nat.lt_succ_self _)
    show Nx F w0 N ⟨U, h, ι⟩ (addU U [(nx, Blk.w I.e I.et m true)]) _ (updH h [(nx, Blk.w I.e I.et m true)]) _ _
    rw [addU_new, updH_new]
    exact nx_row R hn (v := .slice none 0 0) (dead := none) hnr hsz hwm (fun b' hb' => by cases hb') (fun g hg => by simp [Value.ownBlock] at hg) (by simpa using r2) r3 r4 o.dst
  · exact he.elim
end
end Go.AM
end
/- Slices written out; iterators; lengths; least and greatest; conversions; what an interface holds. -/
section
set_option linter.constructorNameAsVariable false
set_option linter.unusedVariables false
set_option linter.unusedSimpArgs false
set_option linter.unnecessarySimpa false
namespace Go.AM
section
variable {P : Program} {F : Nat → Prop} {w0 w w' : World} {N : Nat} {U : Nat → Prop} {T : Nat → D} {h : Nat → Blk} {ι : Nat → Option (Nat × Nat × Nat)} {a : Act} {Q : Exit → Act → World → Prop} {E : Env} {o : Oper} {nx : Nat} {e : Eff} {M M' : Wd}
theorem fill_row {t : Ty} (hn : t.nr = 0) : ∀ (ps : List (Nat × D)) (vs : List (Nat × Value)) (k : Nat) (l : List t.den) (C : Array Value), rowOf t ps k = some l → ps.length = vs.length →
    (∀ (i j : Nat) (p : D) (v : Nat × Value), ps[i]? = some (j, p) → vs[i]? = some v → v.1 = j ∧ DR M p v.2) → C.size = (k + ps.length) * t.sz →
    (∀ y ∈ l, wf t y) ∧ l.length = ps.length ∧ ∃ C', Instr.fill (fun i => some (i * t.sz, t.sz)) C vs = some C' ∧ C'.toList = C.toList.take (k * t.sz) ++ rowv t l
  | [], [], k, l, C, hr, _, _, hC => by
    simp [rowOf] at hr; subst hr
    refine ⟨by simp, rfl, C, rfl, ?_⟩
    rw [List.take_of_length_le (by simp at hC ⊢; omega)]
    simp [rowv]
  | (j, p) :: ps, (j', v) :: vs, k, l, C, hr, hl, hd, hC => by
    obtain ⟨e, hv⟩ := hd 0 j p (j', v) rfl rfl
    simp only at e; subst e
    unfold rowOf at hr
    split at hr
    · rename_i heq; cases heq
    · rename_i j2 u x ps2 heq
      simp only [List.cons.injEq, Prod.mk.injEq] at heq
      obtain ⟨⟨rfl, rfl⟩, rfl⟩ := heq
      split at hr
      case isFalse => cases hr
      rename_i hjk
      subst hjk
      split at hr
      case h_2 => cases hr
      rename_i x' hx'
      obtain ⟨rfl, rfl⟩ := cst_some hx'
      rw [Option.map_eq_some_iff] at hr
      obtain ⟨l', hl', rfl⟩ := hr
      have hs := sz_cells hv
      have hlen : (j' + ps.length + 1) * u.sz = j' * u.sz + u.sz + ps.length * u.sz := by rw [Nat.add_mul, Nat.add_mul]; omega
      have hC1 : C.size = j' * u.sz + u.sz + ps.length * u.sz := by rw [hC, ← hlen]; rfl
      obtain ⟨C1, h1, h2⟩ := fill_step (place := fun i => some (i * u.sz, u.sz)) (C := C) (i := j') (off := j' * u.sz) (size := u.sz) (v := v) (rest := vs) rfl hs (by omega)
      have hC1s : C1.size = C.size := by
        have := congrArg List.length h2
        simp only [Array.length_toList, List.length_append, List.length_take, List.length_drop, hs] at this
        omega
      obtain ⟨h3, h4, C2, h5, h6⟩ := fill_row hn ps vs (j' + 1) l' C1 hl' (by simpa using hl) (fun i j p v h1 h2 => hd (i + 1) j p v (by simpa using h1) (by simpa using h2)) (by rw [hC1s, hC1, Nat.add_mul, Nat.add_mul]; omega)
      have hwv := hv.1
      have hcv : v.cells.toList = (cs u x []).map val1 := all2_eq (cs_allv u x [] hn hwv) hv.2.2.2
      refine ⟨fun y hy => ?_, by simp [h4], C2, by rw [h1, h5], ?_⟩
      · rcases List.mem_cons.1 hy with rfl | hy
        · exact hwv
        · exact h3 y hy
      · rw [h6, h2]
        have lt : (C.toList.take (j' * u.sz)).length = j' * u.sz := by rw [List.length_take, Array.length_toList]; omega
        have lt2 : (C.toList.take (j' * u.sz) ++ v.cells.toList).length = (j' + 1) * u.sz := by rw [List.length_append, lt, Array.length_toList, hs, Nat.add_mul]; omega
        rw [← List.append_assoc, List.take_left' lt2, hcv]
        simp [rowv]
    · cases hr
  | [], _ :: _, _, _, _, _, h, _, _ => by simp at h
  | _ :: _, [], _, _, _, _, h, _, _ => by simp at h
theorem ok_buildSlice {t : TypeId} {n : Nat} {ps : Array (Nat × Operand)} (K : TOk P E) (ho : o.op = .buildSlice t n ps) : Ok P E o := by
  intro F w0 w N U T h ι a Q nx e R he hf
  simp only [exo, ho] at he
  split at he
  case h_2 => exact he.elim
  rename_i I hI
  split at he
  case isFalse => exact he.elim
  rename_i hc
  obtain ⟨hty, hn, hsmall⟩ := hc
  split at he
  case h_2 => exact he.elim
  rename_i l hl
  have he' : (D.v (.r .s) () [.w nx], [(nx, Blk.w I.e I.et l true)], nx + 1) = e := he
  subst he'
  obtain ⟨i, z, hi, hz, hs, hzs, hby, hu, hnr, hsz⟩ := tok_elem K hI hty
  have hvs : ∀ (i j : Nat) (p : D) (v : Nat × Value), (ps.toList.map fun p => (p.1, ev T p.2))[i]? = some (j, p) → (ps.toList.map fun p => (p.1, a.eval p.2))[i]? = some v → v.1 = j ∧ DR ⟨U, h, ι⟩ p v.2 := by
    intro i j p v h1 h2
    rw [List.getElem?_map] at h1 h2
    cases hx : ps.toList[i]? with
    | none => rw [hx] at h1; simp at h1
    | some x =>
      rw [hx] at h1 h2
      simp at h1 h2
      obtain ⟨rfl, rfl⟩ := h1
      subst h2
      exact ⟨rfl, dr_ev R x.2⟩
  generalize hC0 : (Array.range (n * I.et.sz)).map ((if n * I.et.sz = 0 then #[] else z.cells)[· % (if n * I.et.sz = 0 then #[] else z.cells).size]!) = C0
  have hC0s : C0.size = n * I.et.sz := by rw [← hC0]; simp
  obtain ⟨h1, h2, C', h3, h4⟩ := fill_row (M := ⟨U, h, ι⟩) hnr _ (ps.toList.map fun p => (p.1, a.eval p.2)) 0 l C0 hl (by simp) hvs (by rw [hC0s, hn]; simp)
  simp only [Nat.zero_mul, List.take_zero, List.nil_append] at h4
  have hlen : l.length = n := by rw [h2, hn]; simp
  have hCs : C'.size = n * I.et.sz := by rw [← Array.length_toList, h4, rowv_len _ h1, hlen]
  have run : (execOp a.eval o).run P w = .ok (.value (.slice (some ⟨w.heap.size, 0, none⟩) n n)) (w.alloc (.cells C' I.e)) := by
    have hle : ¬ (n * I.et.sz > 2 ^ 24) := by omega
    have : (Instr.buildSlice t n (ps.map fun (i, x) => (i, a.eval x))).run P w = .ok (.slice (some ⟨w.heap.size, 0, none⟩) n n) (w.alloc (.cells C' I.e)) := by
      unfold Instr.buildSlice
      rw [Sem.run_bind, run_underlying hu]
      simp only [Result.andThen_ok, Sem.run_bind, sizeOf, typeInfo, run_program, hi, Sem.run_pure, hs, if_neg hle]
      by_cases h0 : n * I.et.sz = 0
      · have e0 : C0 = #[] := by apply Array.eq_empty_of_size_eq_zero; rw [hC0s, h0]
        simp only [h0, if_true, Sem.run_pure, Result.andThen_ok, show Array.range 0 = #[] from rfl, Array.map_empty]
        rw [e0] at h3
        simp [h3, newRow, run_newObj_alloc, Sem.run_bind]
      · simp only [if_neg h0] at hC0 ⊢
        simp only [zeroValue, typeInfo, Sem.run_bind, run_program, hi, Sem.run_pure, Result.andThen_ok, hz]
        rw [hC0]
        simp [h3, newRow, run_newObj_alloc, Sem.run_bind]
    simp only [execOp, ho]
    rw [Sem.run_bind, this]
    rfl
  refine .inr ⟨by simp, ?_⟩
  unfold Oper.wp
  rw [run, Oper.upon_value]
  have hnU : ¬ U nx := hf nx (Nat.le_refl _) (Nat.lt_succ_self _)
  show Nx F w0 N ⟨U, h, ι⟩ (addU U [(nx, Blk.w I.e I.et l true)]) _ (updH h [(nx, Blk.w I.e I.et l true)]) _ _
  rw [addU_new, updH_new]
  refine nx_row (w' := w.alloc (.cells C' I.e)) (v' := .slice (some ⟨w.heap.size, 0, none⟩) n n) R hnU (v := .slice none 0 0) (dead := none) hnr hsz h1 (fun b' hb' => by cases hb') (fun g hg => by simp [Value.ownBlock] at hg) ?_ ⟨rfl, rfl, rfl, (grow_alloc (ι := ι) _).size, fun j hj _ => heap_alloc_old w _ hj⟩ (fun g hg => by simp [Value.ownBlock] at hg; exact .inr hg.symm) o.dst
  rw [hlen]
  refine ⟨by rw [rowv_len _ h1, hlen], .inr ⟨w.heap.size, n, C', rfl, Nat.zero_le _, heap_alloc_new w _, Nat.le_refl _, ?_, hCs, ?_⟩⟩
  · have : n ≤ n * I.et.sz := Nat.le_mul_of_pos_right _ hsz
    unfold maxLen; omega
  · rw [h4, List.take_of_length_le (by rw [rowv_len _ h1, hlen]; exact Nat.le_refl _)]
end
end Go.AM
end
/- Iterators; lengths; least and greatest; what an interface holds. -/
section
set_option linter.constructorNameAsVariable false
set_option linter.unusedVariables false
set_option linter.unusedSimpArgs false
set_option linter.unnecessarySimpa false
namespace Go.AM
section
variable {P : Program} {F : Nat → Prop} {w0 w w' : World} {N : Nat} {U : Nat → Prop} {T : Nat → D} {h : Nat → Blk} {ι : Nat → Option (Nat × Nat × Nat)} {a : Act} {Q : Exit → Act → World → Prop} {E : Env} {o : Oper} {nx : Nat} {e : Eff} {M M' : Wd}
theorem dr_zero (K : TOk P E) {t : TypeId} {I : TI} (hI : E.ti t = some I) : ∃ z, (zeroValue t).run P w = .ok z w ∧ DR M (zeroD I) z := by
  obtain ⟨i, z, hi, hz, hs, hw, hag, hzc⟩ := zero_cells (tok_base K hI).1
  refine ⟨z, by simp [zeroValue, typeInfo, hi, hz, Sem.run_bind], ?_⟩
  unfold zeroD
  refine ⟨(wf_dfl _ hw).1, (wf_dfl _ hw).2, hag, ?_⟩
  rw [hzc]
  exact zero_all2 hw
theorem ok_typeAssert {t xt : TypeId} {x : Operand} {ok : Bool} (K : TOk P E) (ho : o.op = .typeAssert x xt t ok) : Ok P E o := by
  intro F w0 w N U T h ι a Q nx e R he hf
  simp only [exo, ho] at he
  have hx := dr_ev R x
  have body : ∀ {d : D} {v : Value}, (Instr.typeAssert (a.eval x) xt t ok).run P w = .ok v w → DR ⟨U, h, ι⟩ d v → (d, [], nx) = e → Goes P o a w F w0 N U T h ι e Q := by
    intro d v h1 h2 h3
    subst h3
    refine wp_val (v := v) R ?_ h2
    simp only [execOp, ho]
    exact run_v h1
  split at he
  · rename_i u d I ex hI
    rw [ex] at hx
    obtain ⟨vv, hv, hd⟩ := hx
    obtain ⟨td, htd, hn⟩ := tok_conc K hI
    split at he
    · rename_i hut
      subst hut
      cases ok with
      | true =>
        refine body (d := .tup [d, .v .b true []]) (v := .tuple #[vv, .bool true]) ?_ ⟨_, rfl, hd, drb true, trivial⟩ he
        unfold Instr.typeAssert
        rw [Sem.run_bind, run_underlying htd, hv]
        cases td <;> simp_all
      | false =>
        refine body (v := vv) ?_ hd he
        unfold Instr.typeAssert
        rw [Sem.run_bind, run_underlying htd, hv]
        cases td <;> simp_all
    · rename_i hut
      cases ok with
      | true =>
        obtain ⟨z, hz, hdz⟩ := dr_zero (w := w) (M := ⟨U, h, ι⟩) K hI
        refine body (d := .tup [zeroD I, .v .b false []]) (v := .tuple #[z, .bool false]) ?_ ⟨_, rfl, hdz, drb false, trivial⟩ he
        unfold Instr.typeAssert
        rw [Sem.run_bind, run_underlying htd, hv]
        cases td <;> simp_all [Sem.run_bind]
      | false => exact he.elim
  · rename_i I ex hI
    rw [ex] at hx
    have hv : a.eval x = .nilIface := hx
    obtain ⟨td, htd, hn⟩ := tok_conc K hI
    cases ok with
    | true =>
      obtain ⟨z, hz, hdz⟩ := dr_zero (w := w) (M := ⟨U, h, ι⟩) K hI
      refine body (d := .tup [zeroD I, .v .b false []]) (v := .tuple #[z, .bool false]) ?_ ⟨_, rfl, hdz, drb false, trivial⟩ he
      unfold Instr.typeAssert
      rw [Sem.run_bind, run_underlying htd, hv]
      cases td <;> simp_all [Sem.run_bind]
    | false => exact he.elim
  · exact he.elim
theorem ok_next {x : Operand} {ty : TypeId} {b0 : Bool} (hb0 : b0 = true) (ho : o.op = .next x b0) : Ok P E o := by
  subst hb0
  intro F w0 w N U T h ι a Q nx e R he hf
  simp only [exo, ho] at he
  have hx := dr_ev R x
  split at he
  case h_2 => exact he.elim
  rename_i b ex
  split at he
  case h_2 => exact he.elim
  rename_i s pos hb
  rw [ex] at hx
  obtain ⟨hU, hw⟩ := hx
  obtain ⟨g, c, hι, hv⟩ := hw (by simp [hb, shp])
  have hbr := R.bl b
  unfold BR at hbr
  simp only [hb] at hbr
  obtain ⟨g', c', hι', hg⟩ := hbr
  have hι : ι b = some (g, 0, c) := hι
  have hι' : ι b = some (g', 0, c') := hι'
  rw [hι] at hι'
  cases hι'
  by_cases hp : pos < s.size
  · have he := he.1 (by unfold lt len; simpa using hp)
    have he' : (D.tup [.v .b true [], .v (.i .i64) (pos : Int) [], .v (.i .i32) (runeD s pos) []], [(b, .it s (widD s pos))], nx) = e := he
    subst he'
    have run := Lib.run_next_any_at (P := P) w g s pos o.type hg hp
    refine .inr ⟨by simp, ?_⟩
    unfold Oper.wp
    have hex : (execOp a.eval o).run P w = .ok (.value (.tuple #[.bool true, .int .i64 pos, .int .i32 (Utf8.decode s pos).1])) (w.iterAt g s (pos + (Utf8.decode s pos).2)) := by
      simp only [execOp, ho, hv]
      rw [Sem.run_bind, run]
      rfl
    rw [hex, Oper.upon_value]
    refine ⟨ι, ?_⟩
    rw [addU_mem hU]
    have hlt : g < w.heap.size := (Array.getElem?_eq_some_iff.1 hg).1
    have hbut : But g w (w.iterAt g s (pos + (Utf8.decode s pos).2)) := ⟨rfl, rfl, rfl, by simp [World.iterAt], fun j hj => by
      simp only [World.iterAt, Array.getElem?_setIfInBounds]
      rw [if_neg (fun e => hj e.symm)]⟩
    refine ⟨(Rel.one R (k := .it s (widD s pos)) hι (by simp [hb, mutb]) (by simp [hb, shp]) rfl hbut ?_).put o.dst ?_, ext_one (by simp [hb, shp])⟩
    · unfold BR
      simp only [upd1_same]
      refine ⟨g, c, hι, ?_⟩
      simp only [World.iterAt, Array.getElem?_setIfInBounds, if_true]
      rw [if_pos hlt]
      unfold widD; rfl
    · refine ⟨_, rfl, drb true, dri .i64 _, ?_, trivial⟩
      have := dri (M := ⟨U, upd1 h b (.it s (widD s pos)), ι⟩) .i32 (runeD s pos)
      unfold runeD at this ⊢
      exact this
  · have he := he.2 (by unfold lt len; simpa using hp)
    have he' : (D.tup [.v .b false []], [], nx) = e := he
    subst he'
    refine wp_val (v := .tuple #[.bool false]) R ?_ ⟨_, rfl, drb false, trivial⟩
    simp only [execOp, ho, hv]
    exact run_v (Lib.run_next_end_at (P := P) w g s pos o.type hg hp)
theorem exe_builtin {args : Array Operand} {ts : Array TypeId} {bi : Builtin} {s : Sem Value} {v : Value} {w' : World} (ho : o.op = .call { callee := .builtin bi, args := args, argTypes := ts })
    (hb : ∀ cs, builtin bi ts o.type cs (args.map a.eval) = (do pure (Next.value (← s)))) (hr : s.run P w = .ok v w') : (execOp a.eval o).run P w = .ok (.value v) w' := by
  simp only [execOp, ho, resolve, invoke]
  simp only [Sem.run_bind, Sem.run_pure, Result.andThen_ok]
  rw [hb]
  simp [Sem.run_bind, hr]
theorem ok_minmax {args : Array Operand} {ts : Array TypeId} {bi : Builtin} (hbi : bi = .min ∨ bi = .max) (ho : o.op = .call { callee := .builtin bi, args := args, argTypes := ts }) : Ok P E o := by
  intro F w0 w N U T h ι a Q nx e R he hf
  simp only [exo, ho] at he
  split at he
  case isFalse => exact he.elim
  rename_i hok
  have hargs : ∃ x y, args.toList.map (ev T) = [ev T x, ev T y] ∧ args = #[x, y] := by
    unfold builtinD at he
    match hh : args.toList with
    | [x, y] => exact ⟨x, y, rfl, by apply Array.toList_inj.1; rw [hh]⟩
    | [] => rw [hh] at he; rcases hbi with rfl | rfl <;> exact he.elim
    | [_] => rw [hh] at he; rcases hbi with rfl | rfl <;> exact he.elim
    | _ :: _ :: _ :: _ => rw [hh] at he; rcases hbi with rfl | rfl <;> exact he.elim
  obtain ⟨x, y, harg, rfl⟩ := hargs
  rw [harg] at he
  have he2 : (ofo (minmax bi (ev T x) (ev T y)) nx).to e := by
    rcases hbi with rfl | rfl <;> exact he
  clear he
  obtain ⟨d, hd, rfl⟩ := to_ofo he2
  clear he2
  have hx := dr_ev R x
  have hy := dr_ev R y
  unfold minmax at hd
  split at hd
  · rename_i k p _ k' q _ ex ey
    split at hd
    case isFalse => cases hd
    rename_i hk
    subst hk
    cases hd
    rw [ex] at hx
    rw [ey] at hy
    obtain ⟨hx, _⟩ := dr_i hx
    obtain ⟨hy, _⟩ := dr_i hy
    refine wp_val R ?_ (dri k _)
    refine exe_builtin ho (s := Builtin.min_ ts o.type #[a.eval x, a.eval y]) (fun cs => by simp [builtin]) ?_
    unfold lt
    by_cases hl : q < p <;> simp [Builtin.min_, Builtin.min2, hx, hy, hl]
  · rename_i k p _ k' q _ ex ey
    split at hd
    case isFalse => cases hd
    rename_i hk
    subst hk
    cases hd
    rw [ex] at hx
    rw [ey] at hy
    obtain ⟨hx, _⟩ := dr_i hx
    obtain ⟨hy, _⟩ := dr_i hy
    refine wp_val R ?_ (dri k _)
    refine exe_builtin ho (s := Builtin.max_ ts o.type #[a.eval x, a.eval y]) (fun cs => by simp [builtin]) ?_
    unfold lt
    by_cases hl : p < q <;> simp [Builtin.max_, Builtin.max2, hx, hy, hl]
  · cases hd
theorem ok_len {args : Array Operand} {ts : Array TypeId} (K : TOk P E) (ho : o.op = .call { callee := .builtin .len, args := args, argTypes := ts }) (hts : ts ≠ #[]) : Ok P E o := by
  intro F w0 w N U T h ι a Q nx e R he hf
  simp only [exo, ho] at he
  split at he
  case isFalse => exact he.elim
  have hargs : ∃ x, args.toList.map (ev T) = [ev T x] ∧ args = #[x] := by
    unfold builtinD at he
    match hh : args.toList with
    | [x] => exact ⟨x, rfl, by apply Array.toList_inj.1; rw [hh]⟩
    | [] => rw [hh] at he; exact he.elim
    | _ :: _ :: _ => rw [hh] at he; exact he.elim
  obtain ⟨x, harg, rfl⟩ := hargs
  rw [harg] at he
  obtain ⟨t0, tl, hts⟩ : ∃ t0 tl, ts = (t0 :: tl).toArray := by
    match hh : ts.toList with
    | [] => exact (hts (by apply Array.toList_inj.1; rw [hh])).elim
    | t0 :: tl => exact ⟨t0, tl, by apply Array.toList_inj.1; rw [hh]⟩
  subst hts
  have he : (lenD E nx h t0 (ev T x)).to e := by simpa [builtinD] using he
  have hx := dr_ev R x
  have body : ∀ {n : Nat} {z : Int}, z = (n : Int) → (Builtin.len_ (t0 :: tl).toArray o.type #[a.eval x]).run P w = .ok (goInt n) w → (D.v (.i .i64) z [], [], nx) = e → Goes P o a w F w0 N U T h ι e Q := by
    intro n z hz h1 h3
    subst hz
    subst h3
    exact wp_val R (exe_builtin ho (s := Builtin.len_ (t0 :: tl).toArray o.type #[a.eval x]) (fun cs => by simp [builtin]) h1) (dri .i64 _)
  unfold lenD at he
  split at he
  · exact he.elim
  rename_i I hI
  split at he
  · rename_i hty
    split at he
    case h_2 => exact he.elim
    rename_i s rs ex
    rw [ex] at hx
    obtain ⟨hv, _⟩ := dr_s hx
    refine body (n := s.size) (by unfold len; rfl) ?_ he
    have hu := tok_string K (t := t0) (by simp [Env.ty, hI, hty])
    simp [Builtin.len_, Sem.run_bind, run_underlying hu, hv]
  · rename_i hty
    obtain ⟨hu, _⟩ := tok_slice K hI hty
    split at he
    · rename_i rs ex
      rw [ex] at hx
      obtain ⟨r, er, hr⟩ := dr_r hx
      simp at er; subst er
      have hv : a.eval x = .slice none 0 0 := hr
      refine body (n := 0) rfl ?_ he
      simp [Builtin.len_, Sem.run_bind, run_underlying hu, hv]
    · split at he
      case h_2 => exact he.elim
      rename_i b off n hs
      split at he
      case isFalse => exact he.elim
      rename_i hrow
      obtain ⟨_, _, _, _, _, _, _, A, c, hv, _⟩ := dr_slc (M := ⟨U, h, ι⟩) hx hs (by intro e; rw [show rowTy (h b) = none from e] at hrow; simp at hrow)
      refine body (n := n) rfl ?_ he
      simp [Builtin.len_, Sem.run_bind, run_underlying hu, hv]
  · rename_i k n hty
    split at he
    · exact he.elim
    rename_i hn
    obtain ⟨el, i, d, hu, _⟩ := tok_arrayA K hI hty hn
    refine body (n := I.n) rfl ?_ he
    simp [Builtin.len_, Sem.run_bind, run_underlying hu]
  · rename_i n u hty
    split at he
    · exact he.elim
    obtain ⟨el, i, d, hu, hn, _⟩ := tok_array K hI hty
    refine body (n := I.n) rfl ?_ he
    rw [hn]
    simp [Builtin.len_, Sem.run_bind, run_underlying hu]
  · exact he.elim
end
end Go.AM
end
/- Conversions; every operation but calls. -/
section
set_option linter.constructorNameAsVariable false
set_option linter.unusedVariables false
set_option linter.unusedSimpArgs false
set_option linter.unnecessarySimpa false
namespace Go.AM
section
variable {P : Program} {F : Nat → Prop} {w0 w w' : World} {N : Nat} {U : Nat → Prop} {T : Nat → D} {h : Nat → Blk} {ι : Nat → Option (Nat × Nat × Nat)} {a : Act} {Q : Exit → Act → World → Prop} {E : Env} {o : Oper} {nx : Nat} {e : Eff} {M M' : Wd}
theorem tok_int (K : TOk P E) {t : TypeId} {k : IntKind} (ht : E.ty t = some (.i k)) : P.underlying t = some (.int k) := by
  obtain ⟨I, hI, hty⟩ := Env.ty_some ht
  have h5 := K.ti t I hI
  unfold tiOk at h5
  simp only [Bool.and_eq_true] at h5
  have h5 := h5.2
  rw [hty] at h5
  cases hu : P.underlying t with
  | none => simp [hu] at h5
  | some d => rw [hu] at h5; cases d <;> simp at h5; rw [h5]
theorem rowv_int {k : IntKind} (l : List Int) : rowv (.i k) l = l.map (Value.int k) := by
  induction l with
  | nil => rfl
  | cons x l ih => simp only [rowv, List.flatMap_cons, List.map_append, List.map_cons] at ih ⊢; rw [ih]; simp [cs, val1]
theorem range_cells {g off : Nat} {k : IntKind} {l : List Int} (hr : w.rangeAt g off (rowv (.i k) l)) : (loadCells ⟨g, off, none⟩ l.length).run P w = .ok (l.map (Value.int k)).toArray w := by
  have := run_loadCells_list (P := P) (w := w) ⟨g, off, none⟩ (l.map (Value.int k)) (fun j v hj => by
    rw [Addr.add_mid]
    exact hr j v (by rw [rowv_int]; exact hj))
  simpa using this
theorem ok_convert {s d : TypeId} {x : Operand} (K : TOk P E) (ho : o.op = .convert s d x) : Ok P E o := by
  intro F w0 w N U T h ι a Q nx e R he hf
  simp only [exo, ho] at he
  obtain ⟨r, hr, rfl⟩ := to_ofo he
  clear he
  have hx := dr_ev R x
  have body : ∀ {v : Value}, (convert s d (a.eval x)).run P w = .ok v w → DR ⟨U, h, ι⟩ r v → Goes P o a w F w0 N U T h ι (r, [], nx) Q := by
    intro v h1 h2
    refine wp_val (v := v) R ?_ h2
    simp only [execOp, ho]
    exact run_v h1
  unfold convD at hr
  split at hr
  case h_2 => cases hr
  rename_i I J hI hJ
  obtain ⟨ds, hds, _⟩ := tok_conc K hI
  split at hr
  · rename_i k k' n rs hty ex
    cases hr
    rw [ex] at hx
    obtain ⟨hv, _⟩ := dr_i hx
    refine body (v := .int k (k.wrap n)) ?_ ?_
    · have hu := tok_int K (t := d) (k := k) (by simp [Env.ty, hJ, hty])
      rw [hv]
      unfold convert
      rw [Sem.run_bind, run_underlying hds]
      simp only [Result.andThen_ok]
      rw [Sem.run_bind, run_underlying hu]
      simp [Conv.intToInt]
    · have := dri (M := ⟨U, h, ι⟩) k (wr k n)
      unfold wr at this ⊢
      exact this
  · rename_i k' n rs hty ex
    split at hr
    case h_2 => cases hr
    rename_i k hty2
    cases hr
    rw [ex] at hx
    obtain ⟨hv, _⟩ := dr_i hx
    refine body (v := .string (Utf8.encode n)) ?_ (drs_ _)
    have hu := tok_string K (t := d) (by simp [Env.ty, hJ, hty])
    have hu2 := tok_int K (t := s) (k := k) (by simp [Env.ty, hI, hty2])
    rw [hv]
    simp [convert, Sem.run_bind, run_underlying hu, run_underlying hu2, Conv.intToString]
  · rename_i n rs hty ex
    cases hr
    rw [ex] at hx
    obtain ⟨hv, _⟩ := dr_s hx
    refine body (v := .string n) ?_ (drs_ _)
    have hu := tok_string K (t := d) (by simp [Env.ty, hJ, hty])
    rw [hv]
    unfold convert
    rw [Sem.run_bind, run_underlying hds]
    simp only [Result.andThen_ok]
    rw [Sem.run_bind, run_underlying hu]
    simp
  · rename_i hty _ _
    have hu := tok_string K (t := d) (by simp [Env.ty, hJ, hty])
    split at hr
    · rename_i l hty2 hheld
      split at hr
      case isFalse => cases hr
      rename_i hc
      cases hr
      obtain ⟨hu2, _⟩ := tok_slice K hI hty2
      have he := tok_int K hc.1
      obtain ⟨_, _, _, A, c, hv, hlc, hA⟩ := dr_held (w := w) hx hheld R.bl
      refine body (v := .string (bytesOf l)) ?_ (drs_ _)
      rw [hv, run_convert_bytes_string w s d I.e A _ c hu2 he hu]
      cases l with
      | nil =>
        cases A with
        | none => simp [Conv.bytesToString, bytesOf]
        | some A => 
          have := run_bytesToString (P := P) w A 0 c [] (by simpa using run_loadCells_list (P := P) (w := w) A [] (by simp))
          exact this
      | cons y l =>
        obtain ⟨g, off, rfl, hr⟩ := hA (by simp)
        exact run_bytesToString w _ _ c _ (range_cells hr)
    · rename_i l hty2 hheld
      split at hr
      case isFalse => cases hr
      rename_i hc
      cases hr
      obtain ⟨hu2, _⟩ := tok_slice K hI hty2
      have he := tok_int K hc.1
      obtain ⟨_, _, _, A, c, hv, hlc, hA⟩ := dr_held (w := w) hx hheld R.bl
      refine body (v := .string (runesOf l)) ?_ (drs_ _)
      rw [hv, run_convert_runes_string w s d I.e A _ c hu2 he hu]
      cases l with
      | nil =>
        cases A with
        | none => simp [Conv.runesToString, runesOf]
        | some A => 
          have := run_runesToString (P := P) w A 0 c [] (by simpa using run_loadCells_list (P := P) (w := w) A [] (by simp))
          exact this
      | cons y l =>
        obtain ⟨g, off, rfl, hr⟩ := hA (by simp)
        exact run_runesToString w _ _ c _ (range_cells hr)
    · cases hr
  · cases hr
end
end Go.AM
end
/- Regions that draw their order: operations that leave the class of worlds alone, in whatever order; then a chain of others. -/
section
set_option linter.unusedVariables false
namespace Go.AM
section
variable {P : Program} {ops : Array Oper} {md : Region.Mode} {C : World → Prop} {n g : Nat} {L : Array Bool → Act → Prop}
/-- So many operations of the head in whatever order, then L. -/
def hdQ (P : Program) (md : Region.Mode) (ops : Array Oper) (C : World → Prop) (n : Nat) (L : Array Bool → Act → Prop) : Nat → Array Bool → Act → Prop
  | 0, l, a => L l a
  | f + 1, l, a => Region.ready md ops l ≠ [] ∧ ∀ i ∈ Region.ready md ops l, i < n ∧ qOp P ops C i (hdQ P md ops C n L f (l.setIfInBounds i true)) a
theorem hdQ_any {Q : Exit → Act → World → Prop} (hL : ∀ l a w, C w → L l a → wpAny P md ops Q g l a w) : ∀ (f : Nat) (l : Array Bool) (a : Act) (w : World), C w → hdQ P md ops C n L f l a → wpAny P md ops Q (f + g) l a w
  | 0, l, a, w, hw, h => by rw [Nat.zero_add]; exact hL _ _ _ hw h
  | f + 1, l, a, w, hw, h => by
    rw [Nat.add_right_comm]
    exact ⟨fun h0 => absurd h0 h.1, fun i hi => wpOp_of_qOp hw (fun a' w' hw' h' => hdQ_any hL f _ a' w' hw' h') (h.2 i hi).2⟩
theorem hdQ_first {i : Nat} {oi : Oper} {v : Value} (hi : ops[i]? = some oi) (hsel : ∀ (j : Nat) (o : Oper) cs b, ops[j]? = some o → o.op ≠ .select cs b)
    (hs : Region.sinkB md ops n = true) (hc : Region.chainB md ops n = true) (hn : n < ops.size) (hin : i < n) (hL : ∀ l a, L l a → ∀ j ∈ Region.ready md ops l, n ≤ j) (f : Nat) :
    ∀ (l : Array Bool) (a : Act), HeadInv md ops n l →
      (∀ j oj, ops[j]? = some oj → j ≠ i → l.getD j true = false → (∀ e ∈ oj.after, Region.binds md e = true → e.on ≠ i) → oi.apart ops oj = true) →
      i ∈ Region.ready md ops l → YieldsIn P ops C oi v a → hdQ P md ops C n L f (l.setIfInBounds i true) (a.put oi.dst v) → hdQ P md ops C n L (f + 1) l a := by
  induction f with
  | zero =>
    intro l a inv _ hr hy H
    refine ⟨List.ne_nil_of_mem hr, fun j hj => ?_⟩
    have hjn : j < n := Nat.lt_of_not_le fun hle => tail_waits hs hc hn inv _ i rfl hin (mem_ready.1 hr).1 j hle hj
    by_cases e : j = i
    · subst e; exact ⟨hjn, hy.qOp hi H⟩
    · exact absurd (hL _ _ H j (ready_mono hj e)) (by omega)
  | succ f ih =>
    intro l a inv free hr hy H
    refine ⟨List.ne_nil_of_mem hr, fun j hj => ?_⟩
    have hjn : j < n := Nat.lt_of_not_le fun hle => tail_waits hs hc hn inv _ i rfl hin (mem_ready.1 hr).1 j hle hj
    by_cases e : j = i
    · subst e; exact ⟨hjn, hy.qOp hi H⟩
    · obtain ⟨hjun, oj, hoj, hall⟩ := mem_ready.1 hj
      have hap := free j oj hoj e hjun fun e he hb heq => by
        have h1 := hall e he hb
        rw [heq, getD_both (mem_ready.1 hr).1] at h1
        cases h1
      have h2 := qOp_put hoj hap (fun cs b => hsel i oi cs b hi) (fun cs b => hsel j oj cs b hoj) hy (H.2 j (ready_mono hj e)).2
      refine ⟨hjn, qOp_mono (fun a' h3 => ?_) h2⟩
      refine ih _ a' (inv.set hj hjn) (fun k ok hk hki hun hno => free k ok hk hki ?_ hno) (ready_mono hr fun e' => e e'.symm) h3.1 ?_
      · by_cases hjk : j = k
        · subst hjk; exact hjun
        · rw [getD_set_ne true hjk] at hun; exact hun
      · rw [Array.setIfInBounds_comm _ _ e]
        exact h3.2
theorem hdQ_lex {Lq : Act → Prop} (hsel : Region.noSelect ops = true) (hs : Region.sinkB md ops n = true) (hc : Region.chainB md ops n = true) (hn : n < ops.size) :
    ∀ (os : List Oper) (k : Nat) (l : Array Bool) (a : Act), (∀ j, j < os.length → os[j]? = ops[k + j]?) → k + os.length = n → HeadInv md ops n l →
    Region.lexHead md ops g os.length k l = true → wpQuiet P ops C Lq os a → hdQ P md ops C n (fun l' a' => Region.seqB md ops g n l' = true ∧ Lq a') os.length l a
  | [], k, l, a, _, hk, _, hB, h => by
    obtain rfl : k = n := hk
    exact ⟨hB, h⟩
  | o :: os, k, l, a, hl, hk, inv, hB, h => by
    have h0 : ops[k]? = some o := (hl 0 (Nat.succ_pos _)).symm
    unfold Region.lexHead at hB
    simp only [List.length_cons, Bool.and_eq_true] at hB hk
    have hr : k ∈ Region.ready md ops l := by simpa using hB.1.1
    have hq : qOp P ops C k (wpQuiet P ops C Lq os) a := by unfold qOp; rw [h0]; exact h
    obtain ⟨v, hy, hK⟩ := yieldsIn_of_qOp h0 hq
    refine hdQ_first h0 (Region.noSelect_spec hsel) hs hc hn (by omega) (fun l' a' hL => seqB_ready hL.1) os.length l a inv (Region.free_spec h0 hB.1.2) hr hy ?_
    refine hdQ_lex hsel hs hc hn os (k + 1) _ _ (fun j hj => ?_) (by omega) (inv.set hr (by omega)) hB.2 hK
    have := hl (j + 1) (Nat.succ_lt_succ hj)
    rw [Nat.add_assoc, Nat.add_comm 1 j]
    exact this
/-- The head in whatever order, the tail in its own. -/
theorem region_tail {id : Nat} {Q : Exit → Act → World → Prop} {a : Act} {w : World} (hm : P.follows .mixedOrders = true) (hB : Region.lexTailB .any ops n = true) (hC : C { w with drawn := w.drawn + 1 })
    (h : wpQuiet P ops C (fun a' => ∀ w', C w' → wpList P ops Q (ops.toList.drop n) a' w') (ops.toList.take n) a) : (Code.region id ops true).wp P Q a w := by
  unfold Region.lexTailB at hB
  simp only [Bool.and_eq_true, decide_eq_true_eq] at hB
  obtain ⟨⟨⟨⟨hsel, hn⟩, hs⟩, hc⟩, hlex⟩ := hB
  have ht : (ops.toList.take n).length = n := by simp; omega
  have hd : (ops.toList.drop n).length = ops.size - n := by simp
  have inv : HeadInv .any ops n (Array.replicate ops.size false) := ⟨by simp, fun j oj _ hl => (by rw [getD_replicate_false] at hl; cases hl), fun t _ ht => getD_in (by simpa using ht) (getD_replicate_false _ _)⟩
  have H := hdQ_lex (md := .any) (g := ops.size - n) hsel hs hc hn (ops.toList.take n) 0 _ a (fun j hj => by
    rw [ht] at hj
    simp [hj]) (by rw [ht, Nat.zero_add]) inv (by rw [ht]; exact hlex) h
  have A := hdQ_any (P := P) (Q := Q) (g := ops.size - n) (fun l a' w' hw hL => by
    have := wpAny_of_seq (P := P) (md := .any) (ops := ops) (Q' := Q) (ops.toList.drop n) n l a' w' (fun j => by simp [List.getElem?_drop]) (by rw [hd]; exact hL.1) (hL.2 w' hw)
    rwa [hd] at this) _ _ _ _ hC H
  rw [ht, show n + (ops.size - n) = ops.size by omega] at A
  exact wp_region_any hm A
end
end Go.AM
end
/- Every operation; what is known of functions; calls. -/
section
set_option linter.constructorNameAsVariable false
set_option linter.unusedVariables false
set_option linter.unusedSimpArgs false
set_option linter.unnecessarySimpa false
namespace Go.AM
section
variable {P : Program} {F : Nat → Prop} {w0 w w' : World} {N : Nat} {U : Nat → Prop} {T : Nat → D} {h : Nat → Blk} {ι : Nat → Option (Nat × Nat × Nat)} {a : Act} {Q : Exit → Act → World → Prop} {E : Env} {o : Oper} {nx : Nat} {e : Eff} {M M' : Wd}
theorem ok_bad (hb : ∀ nx ρ h, exo E nx ρ h o = .bad) : Ok P E o := by
  intro F w0 w N U T h ι a Q nx e R he hf
  rw [hb] at he
  exact he.elim
theorem ok_builtin {b : Builtin} {args : Array Operand} {ts : Array TypeId} (K : TOk P E) (ho : o.op = .call { callee := .builtin b, args := args, argTypes := ts }) : Ok P E o := by
  by_cases h1 : b = .append
  · subst h1; exact ok_append K ho
  by_cases h2 : b = .len
  · subst h2
    by_cases h3 : ts = #[]
    · exact ok_bad fun nx ρ h => by simp [exo, ho, okT, h3]
    · exact ok_len K ho h3
  by_cases h3 : b = .min ∨ b = .max
  · exact ok_minmax h3 ho
  refine ok_bad fun nx ρ h => ?_
  simp only [exo, ho]
  split
  · unfold builtinD
    split <;> simp_all
  · rfl
theorem ok_all (K : TOk P E) (hc : ∀ f args ts, o.op = .call { callee := .value f, args := args, argTypes := ts } → Ok P E o) (hi : ∀ r s args ts, o.op = .call { callee := .invoke r s, args := args, argTypes := ts } → Ok P E o) : Ok P E o := by
  cases ho : o.op with
  | move x => exact ok_move (.inl ho)
  | assign x => exact ok_move (.inr ho)
  | pick c x y => exact ok_pick ho
  | alloc t => exact ok_alloc K ho
  | box t x => exact ok_box ho
  | build t ps => exact ok_build K ho
  | buildSlice t n ps => exact ok_buildSlice K ho
  | load t x => exact ok_load K ho
  | store t x y => exact ok_store K ho
  | nilCheck x => exact ok_nilCheck ho
  | binOp op t x y yt => exact ok_binOp K ho
  | unOp op t x => exact ok_unOp ho
  | convert s d x => exact ok_convert K ho
  | makeInterface t x => exact ok_makeInterface K ho
  | makeFunc fn fs cs =>
    cases fn with
    | func f => exact ok_makeFunc ho
    | _ => exact ok_bad fun nx ρ h => by simp only [exo, ho]
  | slice t x lo hi mx =>
    cases mx with
    | none => exact ok_slice K ho
    | some _ => exact ok_bad fun nx ρ h => by simp only [exo, ho]
  | fieldAddr t x j => exact ok_fieldAddr K ho
  | field t x j => exact ok_field K ho
  | indexAddr t x y => exact ok_indexAddr K ho
  | index t x y => exact ok_index K ho
  | range t x => exact ok_range K ho
  | next x b =>
    cases b with
    | true => exact ok_next (ty := 0) rfl ho
    | false => exact ok_bad fun nx ρ h => by simp only [exo, ho]
  | extract x j => exact ok_extract ho
  | typeAssert x xt t ok => exact ok_typeAssert K ho
  | call c =>
    obtain ⟨callee, args, ts⟩ := c
    cases callee with
    | builtin b => exact ok_builtin K ho
    | value f => exact hc f args ts ho
    | invoke r s => exact hi r s args ts ho
  | _ => exact ok_bad fun nx ρ h => by simp only [exo, ho]
end
end Go.AM
end
/- Blocks numbered anew. -/
section
set_option linter.constructorNameAsVariable false
set_option linter.unusedVariables false
set_option linter.unusedSimpArgs false
set_option linter.unnecessarySimpa false
namespace Go.AM
/-- What a block was seen as by its old number it is seen as by its new one, or it is gone. -/
def Ren (M M' : Wd) (g : Nat → Option Nat) : Prop := ∀ b b', g b = some b' → M.U b → M'.U b' ∧ (shp (M'.h b') = none ∨ (shp (M'.h b') = shp (M.h b) ∧ M'.ι b' = M.ι b))
section
variable {M M' : Wd} {g : Nat → Option Nat} {w : World}
theorem RR.ren (e : Ren M M' g) {r r' : Ref} {v : Value} (hr : r.ren g = some r') (h : RR M r v) : RR M' r' v := by
  cases r with
  | np => cases hr; exact h
  | ns => cases hr; exact h
  | nm => cases hr; exact h
  | m b => exact h.elim
  | p b =>
    simp only [Ref.ren, Option.map_eq_some_iff] at hr
    obtain ⟨b', hb, rfl⟩ := hr
    obtain ⟨hu, h⟩ := h
    obtain ⟨hu', hs⟩ := e b b' hb hu
    refine ⟨hu', fun hk => ?_⟩
    rcases hs with hs | ⟨hs, hi⟩
    · exact absurd hs hk
    · rw [hi]; exact h (by rw [← hs]; exact hk)
  | w b =>
    simp only [Ref.ren, Option.map_eq_some_iff] at hr
    obtain ⟨b', hb, rfl⟩ := hr
    obtain ⟨hu, h⟩ := h
    obtain ⟨hu', hs⟩ := e b b' hb hu
    refine ⟨hu', fun k t n hk => ?_⟩
    rcases hs with hs | ⟨hs, hi⟩
    · rw [hs] at hk; cases hk
    · rw [hi]; exact h k t n (by rw [← hs]; exact hk)
theorem renRs_take : ∀ {rs rs' : List Ref} (n : Nat), renRs g rs = some rs' → renRs g (rs.take n) = some (rs'.take n) ∧ renRs g (rs.drop n) = some (rs'.drop n)
  | [], rs', n, h => by cases h; simp [renRs]
  | r :: rs, rs', 0, h => by simp [renRs] at h ⊢; exact h
  | r :: rs, rs', n + 1, h => by
    simp only [renRs, Option.bind_eq_some_iff, Option.map_eq_some_iff] at h
    obtain ⟨r', hr, l', hl, rfl⟩ := h
    obtain ⟨h1, h2⟩ := renRs_take n hl
    exact ⟨by simp [renRs, hr, h1], by simpa using h2⟩
theorem renRs_length : ∀ {rs rs' : List Ref}, renRs g rs = some rs' → rs'.length = rs.length
  | [], _, h => by cases h; rfl
  | r :: rs, _, h => by
    simp only [renRs, Option.bind_eq_some_iff, Option.map_eq_some_iff] at h
    obtain ⟨r', hr, l', hl, rfl⟩ := h
    simp [renRs_length hl]
def csR (g : Nat → Option Nat) : CS → CS → Prop | .v x, .v y => x = y | .r r, .r r' => r.ren g = some r' | _, _ => False
theorem all2_refl {α : Type} {R : α → α → Prop} : ∀ (l : List α), (∀ x ∈ l, R x x) → All2 R l l
  | [], _ => trivial
  | x :: l, h => ⟨h x (by simp), all2_refl l fun y hy => h y (by simp [hy])⟩
theorem cs_nil_self : ∀ (t : Ty) (x : t.den) (rs : List Ref), rs = [] → ∀ c ∈ cs t x rs, csR g c c := by
  intro t
  induction t with
  | p a b iha ihb =>
    intro x rs hrs c hc
    subst hrs
    simp only [cs, List.take_nil, List.drop_nil, List.mem_append] at hc
    rcases hc with hc | hc
    · exact iha _ _ rfl c hc
    · exact ihb _ _ rfl c hc
  | l n t ih =>
    intro (x : List t.den) rs hrs c hc
    have hc' : c ∈ x.flatMap (fun y => cs t y []) := hc
    obtain ⟨y, _, hy⟩ := List.mem_flatMap.1 hc'
    exact ih _ _ rfl c hy
  | a k n =>
    intro (x : List Int) rs hrs c hc
    have hc' : c ∈ x.map fun n => CS.v (.int k n) := hc
    obtain ⟨y, _, rfl⟩ := List.mem_map.1 hc'
    rfl
  | r k => intro x rs hrs c hc; subst hrs; simp [cs] at hc; subst hc; rfl
  | u => intro x rs hrs c hc; simp [cs] at hc
  | _ => intro x rs hrs c hc; simp [cs] at hc; subst hc; rfl
theorem cs_ren : ∀ (t : Ty) (x : t.den) (rs rs' : List Ref), renRs g rs = some rs' → All2 (csR g) (cs t x rs) (cs t x rs') := by
  intro t
  induction t with
  | p a b iha ihb =>
    intro x rs rs' h
    obtain ⟨h1, h2⟩ := renRs_take a.nr h
    exact (iha x.1 _ _ h1).append (ihb x.2 _ _ h2)
  | r k =>
    intro x rs rs' h
    cases rs with
    | nil => cases h; exact ⟨rfl, trivial⟩
    | cons r rs =>
      simp only [renRs, Option.bind_eq_some_iff, Option.map_eq_some_iff] at h
      obtain ⟨r', hr, l', hl, rfl⟩ := h
      exact ⟨hr, trivial⟩
  | l n t ih =>
    intro (x : List t.den) rs rs' h
    have : cs (.l n t) x rs = cs (.l n t) x rs' := rfl
    rw [← this]
    have e : cs (.l n t) x rs = cs (.l n t) x [] := rfl
    rw [e]
    exact all2_refl _ (cs_nil_self _ _ _ rfl)
  | a k n =>
    intro x rs rs' h
    exact all2_refl _ (cs_nil_self (g := g) (.a k n) x [] rfl)
  | u => intro x rs rs' h; exact trivial
  | _ => intro x rs rs' h; exact ⟨rfl, trivial⟩
theorem all2_trans {α β : Type} {S : α → α → Prop} {R R' : α → β → Prop} (f : ∀ a b c, S a b → R a c → R' b c) : ∀ {l l' : List α} {m : List β}, All2 S l l' → All2 R l m → All2 R' l' m
  | [], [], [], _, _ => trivial
  | a :: l, b :: l', c :: m, h, h' => ⟨f a b c h.1 h'.1, all2_trans f h.2 h'.2⟩
  | [], _ :: _, _, h, _ => h.elim
  | _ :: _, [], _, h, _ => h.elim
  | [], [], _ :: _, _, h => h.elim
  | _ :: _, _ :: _, [], _, h => h.elim
theorem CR.ren (e : Ren M M' g) (c c' : CS) (v : Value) (hc : csR g c c') (h : CR M c v) : CR M' c' v := by
  cases c with
  | v x => cases c' with | v y => cases hc; exact h | r _ => exact hc.elim
  | r r => cases c' with | v y => exact hc.elim | r r' => exact ⟨RR.ren e hc h.1, h.2⟩
theorem all2_ren (e : Ren M M' g) {t : Ty} {x : t.den} {rs rs' : List Ref} {m : List Value} (hr : renRs g rs = some rs') (h : All2 (CR M) (cs t x rs) m) : All2 (CR M') (cs t x rs') m :=
  all2_trans (CR.ren e) (cs_ren t x rs rs' hr) h
mutual
theorem DR.ren (e : Ren M M' g) : ∀ (d d' : D) (v : Value), d.ren g = some d' → DR M d v → DR M' d' v
  | .no, d', v, hd, h => by simp [D.ren] at hd; subst hd; exact trivial
  | .v t x rs, d', v, hd, h => by
    simp only [D.ren, Option.map_eq_some_iff] at hd
    obtain ⟨rs', hr, rfl⟩ := hd
    exact ⟨h.1, by rw [renRs_length hr]; exact h.2.1, h.2.2.1, all2_ren e hr h.2.2.2⟩
  | .tup l, d', v, hd, h => by
    simp only [D.ren, Option.map_eq_some_iff] at hd
    obtain ⟨l', hl, rfl⟩ := hd
    obtain ⟨vs, rfl, h⟩ := h
    exact ⟨vs, rfl, DRL.ren e l l' _ hl h⟩
  | .fc t d, d', v, hd, h => by
    simp only [D.ren, Option.map_eq_some_iff] at hd
    obtain ⟨d1, hl, rfl⟩ := hd
    obtain ⟨u, rfl, h⟩ := h
    exact ⟨u, rfl, DR.ren e d d1 u hl h⟩
  | .nf, d', v, hd, h => by simp [D.ren] at hd; subst hd; exact h
  | .sl b off n, d', v, hd, ⟨hu, h⟩ => by
    simp only [D.ren, Option.map_eq_some_iff] at hd
    obtain ⟨b', hb, rfl⟩ := hd
    obtain ⟨hu', hs⟩ := e b b' hb hu
    refine ⟨hu', fun k t m hk => ?_⟩
    rcases hs with hs | ⟨hs, hi⟩
    · rw [hs] at hk; cases hk
    have h := h k t m (by rw [← hs]; exact hk)
    unfold AtR at h ⊢
    rw [hi]
    exact h
  | .ip b q, d', v, hd, ⟨hu, h⟩ => by
    simp only [D.ren, Option.map_eq_some_iff] at hd
    obtain ⟨b', hb, rfl⟩ := hd
    obtain ⟨hu', hs⟩ := e b b' hb hu
    refine ⟨hu', fun k t m hk => ?_⟩
    rcases hs with hs | ⟨hs, hi⟩
    · rw [hs] at hk; cases hk
    · rw [hi]; exact h k t m (by rw [← hs]; exact hk)
  | .clo f c, d', v, hd, h => by
    simp only [D.ren, Option.map_eq_some_iff] at hd
    obtain ⟨l', hl, rfl⟩ := hd
    obtain ⟨vs, rfl, h⟩ := h
    exact ⟨vs, rfl, DRL.ren e c l' _ hl h⟩
  | .it b, d', v, hd, ⟨hu, h⟩ => by
    simp only [D.ren, Option.map_eq_some_iff] at hd
    obtain ⟨b', hb, rfl⟩ := hd
    obtain ⟨hu', hs⟩ := e b b' hb hu
    refine ⟨hu', fun hk => ?_⟩
    rcases hs with hs | ⟨hs, hi⟩
    · exact absurd hs hk
    · rw [hi]; exact h (by rw [← hs]; exact hk)
theorem DRL.ren (e : Ren M M' g) : ∀ (l l' : List D) (m : List Value), renL g l = some l' → DRL M l m → DRL M' l' m
  | [], l', [], hl, h => by simp [renL] at hl; subst hl; exact trivial
  | [], l', _ :: _, hl, h => h.elim
  | d :: l, l', [], hl, h => h.elim
  | d :: l, l', v :: m, hl, h => by
    simp only [renL, Option.bind_eq_some_iff, Option.map_eq_some_iff] at hl
    obtain ⟨d1, hd, l1, hl, rfl⟩ := hl
    exact ⟨DR.ren e d d1 v hd h.1, DRL.ren e l l1 m hl h.2⟩
end
theorem BR.ren (e : Ren M M' g) {b b' : Nat} {k : Blk} (hb : BR M w b) (hk : (M.h b).ren g = some k) (hh : M'.h b' = k) (hi : M'.ι b' = M.ι b) : BR M' w b' := by
  unfold BR at hb ⊢
  rw [hh]
  cases hq : M.h b with
  | o t x rs =>
    rw [hq] at hb hk
    simp only [Blk.ren, Option.map_eq_some_iff] at hk
    obtain ⟨rs', hr, rfl⟩ := hk
    obtain ⟨gg, c, C, ty, h1, h2, h3, h4, h5⟩ := hb
    exact ⟨gg, c, C, ty, by rw [hi, h1], h2, h3, by rw [renRs_length hr]; exact h4, all2_ren e hr h5⟩
  | w ee t l own =>
    rw [hq] at hb hk
    simp only [Blk.ren, Option.some.injEq] at hk
    subst hk
    rw [hi]
    exact hb
  | sh t =>
    rw [hq] at hb hk
    simp only [Blk.ren, Option.some.injEq] at hk
    subst hk
    rw [hi]
    exact hb
  | it s p =>
    rw [hq] at hb hk
    simp only [Blk.ren, Option.some.injEq] at hk
    subst hk
    rw [hi]
    exact hb
  | de =>
    rw [hq] at hk
    simp only [Blk.ren, Option.some.injEq] at hk
    subst hk
    exact trivial
theorem shp_ren {k k' : Blk} (h : k.ren g = some k') : shp k' = shp k ∧ mutb k' = mutb k := by
  cases k with
  | o t x rs =>
    simp only [Blk.ren, Option.map_eq_some_iff] at h
    obtain ⟨rs', hr, rfl⟩ := h
    exact ⟨rfl, rfl⟩
  | _ => simp only [Blk.ren, Option.some.injEq] at h; subst h; exact ⟨rfl, rfl⟩
end
end Go.AM
end
/- Calls, first part: arguments handed on. -/
section
set_option linter.constructorNameAsVariable false
set_option linter.unusedVariables false
set_option linter.unusedSimpArgs false
set_option linter.unnecessarySimpa false
namespace Go.AM
section
variable {M M' : Wd} {g : Nat → Option Nat} {w : World} {h : Nat → Blk}
theorem row_cells {b : Nat} {ee : TypeId} {t : Ty} {l : List t.den} {own : Bool} {g o c : Nat} (hb : BR M w b) (hh : M.h b = .w ee t l own) (hι : M.ι b = some (g, o, c)) :
    l = [] ∨ ∃ C ty fr, w.heap[g]? = some (.cells C ty fr) ∧ o + l.length * t.sz ≤ C.size ∧ (C.toList.drop o).take (l.length * t.sz) = rowv t l := by
  unfold BR at hb
  rw [hh] at hb
  obtain ⟨hnr, hsz, hwf, h1, h2⟩ := hb
  cases own with
  | true =>
    have h1 := h1 rfl
    rw [hι] at h1
    rcases h1.2 with ⟨h3, _⟩ | ⟨g', cap, cur, h3, h4, h5, h6, h7, h8, h9⟩
    · cases h3
    · simp only [Value.slice.injEq, Option.some.injEq, Addr.mk.injEq] at h3
      obtain ⟨⟨rfl, rfl, _⟩, _, rfl⟩ := h3
      refine .inr ⟨cur, _, _, h5, ?_, by simpa using h9⟩
      have h10 : (cur.toList.take (l.length * t.sz)).length = l.length * t.sz := by rw [h9]; exact rowv_len _ hwf
      rw [List.length_take] at h10
      have h11 : cur.toList.length = cur.size := Array.length_toList
      omega
  | false =>
    have h2 := h2 rfl
    rw [hι] at h2
    exact h2.2.2
/-- A row that is read alone, handed on: its block, where it lies, the slice, and the row that it is of. -/
structure ViewR (M : Wd) (w : World) (k : Blk) (loc : Option (Nat × Nat × Nat)) (v : Value) (b : Nat) : Prop where
  nm : mutb k = false
  br : ∀ (M' : Wd) (j : Nat), M'.h j = k → M'.ι j = loc → BR M' w j
  rr : ∀ (M' : Wd) (j : Nat), M'.h j = k → M'.ι j = loc → M'.U j → RR M' (.w j) v
  hr : M.h b ≠ .de
  at' : ∀ g o c, loc = some (g, o, c) → ∃ o' c', M.ι b = some (g, o', c')
theorem view_r {b : Nat} {off : Option Nat} {n : Option Nat} {k : Blk} {v : Value} (hp : passSl M.h b off n = some k) (hb : BR M w b)
    (hlt : ∀ g o c, M.ι b = some (g, o, c) → g < w.heap.size)
    (hv : (n = none ∧ RR M (.w b) v) ∨ (∃ m, n = some m ∧ SlR M b off m v)) : ∃ loc, ViewR M w k loc v b := by
  unfold passSl at hp
  split at hp
  case h_2 => cases hp
  rename_i ee t l own hh
  simp only [Option.some.injEq] at hp
  subst hp
  obtain ⟨h1, h2, h3, h4⟩ := row_facts hb hh
  rcases hv with ⟨rfl, hu, hv⟩ | ⟨m, rfl, hv⟩
  · have := hv 1 t l.length (by simp [hh, shp])
    refine ⟨M.ι b, rfl, fun M' j hk hi => ?_, fun M' j hk hi hu => ⟨hu, fun k' t' n' hs => ?_⟩, by rw [hh]; simp, fun g o c e => ⟨o, c, e⟩⟩
    · unfold BR
      rw [hk]
      refine ⟨h1, h2, h3, (fun e => by cases e), fun _ => ?_⟩
      rw [hi]
      cases hι : M.ι b with
      | none => exact h4 hι
      | some p =>
        obtain ⟨g, o, c⟩ := p
        rw [hι] at this
        exact ⟨this.2, hlt g o c hι, row_cells hb hh hι⟩
    · rw [hk] at hs
      simp only [shp, Option.some.injEq, Prod.mk.injEq] at hs
      obtain ⟨rfl, rfl, rfl⟩ := hs
      rw [hi]
      exact this
  · obtain ⟨_, h5, A, c, rfl, h6, h7⟩ := hv 1 t l.length (by simp [hh, shp])
    have hdrp : drp off l = l.drop (off.getD 0) := by cases off <;> simp [drp]
    have hlen : ((drp off l).take m).length = m := by rw [hdrp, List.length_take, List.length_drop]; omega
    have hwf : ∀ y ∈ (drp off l).take m, wf t y := fun z hz => h3 z (by rw [hdrp] at hz; exact List.mem_of_mem_drop (List.mem_of_mem_take hz))
    rcases h7 with ⟨rfl, rfl, rfl⟩ | ⟨g, o, cap, o', hι, rfl, ho⟩
    · refine ⟨none, rfl, fun M' j hk hi => ?_, fun M' j hk hi hu => ⟨hu, fun k' t' n' hs => ?_⟩, by rw [hh]; simp, fun g o c e => by cases e⟩
      · unfold BR
        rw [hk]
        refine ⟨h1, h2, hwf, (fun e => by cases e), fun _ => ?_⟩
        rw [hi]
        simp
      · rw [hk] at hs
        simp only [shp, Option.some.injEq, Prod.mk.injEq] at hs
        obtain ⟨rfl, rfl, rfl⟩ := hs
        rw [hi]
        exact ⟨rfl, by simp⟩
    · refine ⟨some (g, o', c), rfl, fun M' j hk hi => ?_, fun M' j hk hi hu => ⟨hu, fun k' t' n' hs => ?_⟩, by rw [hh]; simp, fun g' o1 c' e => ?_⟩
      · unfold BR
        rw [hk]
        refine ⟨h1, h2, hwf, (fun e => by cases e), fun _ => ?_⟩
        rw [hi]
        refine ⟨by rw [hlen]; exact h6, hlt g o cap hι, ?_⟩
        by_cases hm : m = 0
        · left; subst hm; simp
        · right
          rcases row_cells hb hh hι with rfl | ⟨C, ty, fr, h8, h9, h10⟩
          · simp at h5; omega
          · have e1 : l = l.take (off.getD 0) ++ ((l.drop (off.getD 0)).take m ++ (l.drop (off.getD 0)).drop m) := by rw [List.take_append_drop, List.take_append_drop]
            have hl1 : (rowv t (l.take (off.getD 0))).length = off.getD 0 * t.sz := by rw [rowv_len _ (fun z hz => h3 z (List.mem_of_mem_take hz)), List.length_take, Nat.min_eq_left (by omega)]
            have hl2 : (rowv t ((l.drop (off.getD 0)).take m)).length = m * t.sz := by rw [rowv_len _ (fun z hz => hwf z (by rw [hdrp]; exact hz)), ← hdrp, hlen]
            have hmul : off.getD 0 * t.sz + m * t.sz ≤ l.length * t.sz := by rw [← Nat.add_mul]; exact Nat.mul_le_mul_right _ h5
            refine ⟨C, ty, fr, h8, by rw [hlen, ho hm]; omega, ?_⟩
            rw [hlen, ho hm, ← List.drop_drop, hdrp]
            have h10' : (C.toList.drop o) = rowv t l ++ (C.toList.drop o).drop (l.length * t.sz) := by rw [← h10, List.take_append_drop]
            rw [h10']
            conv => lhs; rw [e1]
            rw [rowv_app, rowv_app, List.append_assoc, List.drop_left' hl1, List.append_assoc, List.take_left' hl2]
      · rw [hk] at hs
        simp only [shp, Option.some.injEq, Prod.mk.injEq] at hs
        obtain ⟨rfl, rfl, rfl⟩ := hs
        rw [hi]
        exact ⟨by rw [hlen], by rw [hlen]; exact h6⟩
      · cases e
        exact ⟨o, cap, hι⟩
/-- The same of any argument; f: how it is handed. -/
structure ViewOk (M : Wd) (w : World) (k : Blk) (loc : Option (Nat × Nat × Nat)) (v : Value) (b : Nat) (f : Nat → D) : Prop where
  nm : mutb k = false
  br : ∀ (M' : Wd) (j : Nat), M'.h j = k → M'.ι j = loc → BR M' w j
  dr : ∀ (M' : Wd) (j : Nat), M'.h j = k → M'.ι j = loc → M'.U j → DR M' (f j) v
  hr : M.h b ≠ .de
  at' : ∀ g o c, loc = some (g, o, c) → ∃ o' c', M.ι b = some (g, o', c')
theorem ViewR.to {k : Blk} {loc : Option (Nat × Nat × Nat)} {v : Value} {b : Nat} (V : ViewR M w k loc v b) (hs : ∃ A n c, v = .slice A n c) : ViewOk M w k loc v b (fun j => .v (.r .s) () [.w j]) := by
  obtain ⟨A, n, c, rfl⟩ := hs
  exact ⟨V.nm, V.br, fun M' j h1 h2 h3 => ⟨trivial, rfl, rfl, ⟨V.rr M' j h1 h2 h3, rfl⟩, trivial⟩, V.hr, V.at'⟩
theorem one_row {t : Ty} {x : t.den} {g : Nat} {C : Array Value} {ty : TypeId} (h1 : t.nr = 0) (h2 : 0 < t.sz) (hg : w.heap[g]? = some (.cells C ty (0, 0))) (hw : wf t x) (hC : All2 (CR M) (cs t x []) C.toList) :
    ∀ (M' : Wd) (j : Nat), M'.h j = .w 0 t [x] false → M'.ι j = some (g, 0, 1) → BR M' w j := by
  intro M' j hk hi
  unfold BR
  rw [hk]
  refine ⟨h1, h2, (fun y hy => by simp at hy; subst hy; exact hw), (fun e => by cases e), fun _ => ?_⟩
  rw [hi]
  have e := all2_eq (cs_allv t x [] h1 hw) hC
  have hl := hC.length
  rw [cs_len _ _ _ hw, Array.length_toList] at hl
  refine ⟨Nat.le_refl _, (Array.getElem?_eq_some_iff.1 hg).1, .inr ⟨C, ty, _, hg, by simp; omega, ?_⟩⟩
  have hl2 : C.toList.length = t.sz := by rw [Array.length_toList]; omega
  simp only [List.drop_zero, List.length_cons, List.length_nil, Nat.zero_add, Nat.one_mul]
  rw [List.take_of_length_le (by omega), e]
  simp [rowv]
theorem view_ok {ro : Bool} {d : D} {k : Blk} {f : Nat → D} {b : Nat} {v : Value} (hp : viewD ro M.h d = some (k, f, b)) (bl : ∀ b, BR M w b) (hlt : ∀ b g o c, M.ι b = some (g, o, c) → M.h b ≠ .de → g < w.heap.size) (hd : DR M d v) : ∃ loc, ViewOk M w k loc v b f := by
  unfold viewD at hp
  split at hp
  · rename_i x b1
    simp only [Option.map_eq_some_iff, Prod.mk.injEq] at hp
    obtain ⟨k', hk, rfl, rfl, rfl⟩ := hp
    obtain ⟨r, er, hr⟩ := dr_r hd
    simp at er; subst er
    obtain ⟨loc, V⟩ := view_r hk (bl b1) (fun g o c e => hlt b1 g o c e (by intro e2; simp [passSl, e2] at hk)) (.inl ⟨rfl, hr⟩)
    refine ⟨loc, V.to ?_⟩
    have h1 := hr.2
    unfold passSl at hk
    split at hk
    case h_2 => cases hk
    rename_i ee t l own hh
    have := h1 1 t l.length (by simp [hh, shp])
    cases hi : M.ι b1 with
    | none => rw [hi] at this; exact ⟨_, _, _, this.1⟩
    | some p => rw [hi] at this; exact ⟨_, _, _, this.1⟩
  · rename_i b1 off m
    simp only [Option.map_eq_some_iff, Prod.mk.injEq] at hp
    obtain ⟨k', hk, rfl, rfl, rfl⟩ := hp
    obtain ⟨loc, V⟩ := view_r hk (bl b1) (fun g o c e => hlt b1 g o c e (by intro e2; simp [passSl, e2] at hk)) (.inr ⟨m, rfl, hd.2⟩)
    refine ⟨loc, V.to ?_⟩
    unfold passSl at hk
    split at hk
    case h_2 => cases hk
    rename_i ee t l own hh
    obtain ⟨_, _, A, c, h2, _⟩ := hd.2 1 t l.length (by simp [hh, shp])
    exact ⟨_, _, _, h2⟩
  · rename_i x b1
    split at hp
    case isFalse => cases hp
    simp only [Option.map_eq_some_iff, Prod.mk.injEq] at hp
    obtain ⟨k', hk, rfl, rfl, rfl⟩ := hp
    obtain ⟨r, er, hr⟩ := dr_r hd
    simp at er; subst er
    unfold passPo at hk
    split at hk
    case h_2 => cases hk
    rename_i t y hh
    split at hk
    case isFalse => cases hk
    rename_i hn
    cases hk
    have hb := bl b1
    unfold BR at hb
    rw [hh] at hb
    obtain ⟨g, c, C, ty, h1, h2, h3, h4, h5⟩ := hb
    obtain ⟨g', c', e1, e2⟩ := hr.2 (by rw [hh]; simp [shp])
    rw [h1] at e1
    cases e1
    refine ⟨some (g, 0, 1), rfl, one_row hn.1 hn.2 h2 h3 h5, fun M' j hk hi hu => ⟨hu, fun k t' m hs => ?_⟩, by rw [hh]; simp, fun g' o c' e => by cases e; exact ⟨_, _, h1⟩⟩
    rw [hk] at hs
    simp only [shp, Option.some.injEq, Prod.mk.injEq] at hs
    obtain ⟨rfl, rfl, rfl⟩ := hs
    exact ⟨g, 0, 1, 0, t, hi, e2, .inr ⟨rfl, 0, [], 0, rfl, by simp, by simp, (by cases t <;> exact ⟨rfl, rfl⟩)⟩⟩
  · rename_i b1 q
    split at hp
    case isFalse => cases hp
    simp only [Option.map_eq_some_iff, Prod.mk.injEq] at hp
    obtain ⟨⟨k', q'⟩, hk, rfl, rfl, rfl⟩ := hp
    unfold passIp at hk
    have hb := bl b1
    split at hk
    · rename_i t y hh
      split at hk
      case isFalse => cases hk
      rename_i hn
      cases hk
      unfold BR at hb
      rw [hh] at hb
      obtain ⟨g, c, C, ty, h1, h2, h3, h4, h5⟩ := hb
      obtain ⟨g', o', c', off, u, e1, e2, e3⟩ := hd.2 0 t 0 (by rw [hh]; rfl)
      rw [h1] at e1
      cases e1
      refine ⟨some (g, 0, 1), rfl, one_row hn.1 hn.2 h2 h3 h5, fun M' j hk hi hu => ⟨hu, fun k t' m hs => ?_⟩, by rw [hh]; simp, fun g' o c' e => by cases e; exact ⟨_, _, h1⟩⟩
      rw [hk] at hs
      simp only [shp, Option.some.injEq, Prod.mk.injEq] at hs
      obtain ⟨rfl, rfl, rfl⟩ := hs
      rcases e3 with ⟨_, e3⟩ | ⟨e3, _⟩
      · exact ⟨g, 0, 1, off, u, hi, e2, .inr ⟨rfl, 0, q, off, rfl, by simp, by simp, e3⟩⟩
      · cases e3
    · rename_i ee t l own hh
      cases hk
      obtain ⟨h1, h2, h3, h4⟩ := row_facts hb hh
      obtain ⟨g, o, c, off, u, e1, e2, e3⟩ := hd.2 1 t l.length (by rw [hh]; rfl)
      rcases e3 with ⟨e3, _⟩ | ⟨_, j0, q', o', rfl, hj, rfl, e3⟩
      · cases e3
      have hlc : l.length ≤ c := by
        unfold BR at hb
        rw [hh] at hb
        obtain ⟨_, _, _, w1, w2⟩ := hb
        cases own with
        | true =>
          have w1 := w1 rfl
          rw [e1] at w1
          rcases w1.2 with ⟨w3, _⟩ | ⟨g', cap, cur, w3, _, _, w6, _⟩
          · cases w3
          · simp only [Value.slice.injEq] at w3
            rw [w3.2.2]; exact w6
        | false =>
          have w2 := w2 rfl
          rw [e1] at w2
          exact w2.1
      refine ⟨some (g, o, c), rfl, fun M' j hk hi => ?_, fun M' j hk hi hu => ⟨hu, fun k t' m hs => ?_⟩, by rw [hh]; simp, fun g' o1 c' e => by cases e; exact ⟨_, _, e1⟩⟩
      · unfold BR
        rw [hk]
        refine ⟨h1, h2, h3, (fun e => by cases e), fun _ => ?_⟩
        rw [hi]
        exact ⟨hlc, hlt b1 g o c e1 (by rw [hh]; simp), row_cells hb hh e1⟩
      · rw [hk] at hs
        simp only [shp, Option.some.injEq, Prod.mk.injEq] at hs
        obtain ⟨rfl, rfl, rfl⟩ := hs
        exact ⟨g, o, c, _, u, hi, e2, .inr ⟨rfl, j0, q', o', rfl, hj, rfl, e3⟩⟩
    · cases hk
  · cases hp
end
end Go.AM
end
/- Calls, second part: all arguments; which blocks are handed on. -/
section
set_option linter.constructorNameAsVariable false
set_option linter.unusedVariables false
set_option linter.unusedSimpArgs false
set_option linter.unnecessarySimpa false
namespace Go.AM
section
variable {M M' : Wd} {g : Nat → Option Nat} {w : World} {h : Nat → Blk}
structure ArgsOk (M : Wd) (w : World) (as : List D) (vs : List Value) (n : Nat) (ms : List (Option D)) (ks : List Blk) (ro : List Nat) (locs : List (Option (Nat × Nat × Nat))) : Prop where
  len : locs.length = ks.length
  lenr : ro.length = ks.length
  vw : ∀ (i : Nat) (k : Blk) (loc : Option (Nat × Nat × Nat)) (b : Nat), ks[i]? = some k → locs[i]? = some loc → ro[i]? = some b → ∃ v f, ViewOk M w k loc v b f
  go : ∀ (M0 : Wd) (g : Nat → Option Nat) (as' : List D), (∀ (i : Nat) (k : Blk) (loc : Option (Nat × Nat × Nat)), ks[i]? = some k → locs[i]? = some loc → M0.h (n + i) = k ∧ M0.ι (n + i) = loc ∧ M0.U (n + i)) → Ren M M0 g → handD g as ms = some as' → DRL M0 as' vs
theorem args_view {as : List D} {vs : List Value} {n : Nat} {ms : List (Option D)} {ks : List Blk} {ro : List Nat} {locs : List (Option (Nat × Nat × Nat))} (A : ArgsOk M w as vs (n + 1) ms ks ro locs)
    {d : D} {k : Blk} {loc : Option (Nat × Nat × Nat)} {v : Value} {b : Nat} {f : Nat → D} (V : ViewOk M w k loc v b f) : ArgsOk M w (d :: as) (v :: vs) n (some (f n) :: ms) (k :: ks) (b :: ro) (loc :: locs) := by
  refine ⟨by simp [A.len], by simp [A.lenr], fun i k' loc' b' h1 h2 h3 => ?_, fun M0 g as' hM hR hh => ?_⟩
  · cases i with
    | zero => simp at h1 h2 h3; subst h1 h2 h3; exact ⟨v, f, V⟩
    | succ i => exact A.vw i k' loc' b' (by simpa using h1) (by simpa using h2) (by simpa using h3)
  · simp only [handD, Option.map_eq_some_iff] at hh
    obtain ⟨as1, hh, rfl⟩ := hh
    obtain ⟨h1, h2, h3⟩ := hM 0 k loc rfl rfl
    refine ⟨V.dr M0 (n + 0) h1 h2 h3, A.go M0 g as1 (fun i k' loc' h1 h2 => ?_) hR hh⟩
    have := hM (i + 1) k' loc' (by simpa using h1) (by simpa using h2)
    rw [show n + (i + 1) = n + 1 + i by omega] at this
    exact this
theorem slices_ok {ro : Bool} (bl : ∀ b, BR M w b) (lt : ∀ b g o c, M.ι b = some (g, o, c) → M.h b ≠ .de → g < w.heap.size) : ∀ (as : List D) (vs : List Value) (n : Nat) (ms : List (Option D)) (ks : List Blk) (rs : List Nat), slices ro M.h as n = some (ms, ks, rs) → DRL M as vs →
    ∃ locs, ArgsOk M w as vs n ms ks rs locs
  | [], vs, n, ms, ks, rs, h, hv => by
    simp [slices] at h
    obtain ⟨rfl, rfl, rfl⟩ := h
    refine ⟨[], rfl, rfl, fun i k loc b h => by simp at h, fun M0 g as' hM hR hh => ?_⟩
    simp [handD] at hh; subst hh
    cases vs with
    | nil => trivial
    | cons _ _ => exact hv.elim
  | d :: as, [], n, ms, ks, rs, h, hv => hv.elim
  | d :: as, v :: vs, n, ms, ks, rs, h, hv => by
    obtain ⟨hd, hv⟩ := hv
    unfold slices at h
    split at h
    · rename_i k f b hvw
      simp only [Option.map_eq_some_iff] at h
      obtain ⟨⟨ms', ks', ro'⟩, hs, he⟩ := h
      simp only [Prod.mk.injEq] at he
      obtain ⟨rfl, rfl, rfl⟩ := he
      obtain ⟨locs, A⟩ := slices_ok bl lt as vs _ ms' ks' ro' hs hv
      obtain ⟨loc, V⟩ := view_ok hvw bl lt hd
      exact ⟨loc :: locs, args_view A V⟩
    · simp only [Option.map_eq_some_iff] at h
      obtain ⟨⟨ms', ks', ro'⟩, hs, he⟩ := h
      simp only [Prod.mk.injEq] at he
      obtain ⟨rfl, rfl, rfl⟩ := he
      obtain ⟨locs, A⟩ := slices_ok bl lt as vs _ ms' ks' ro' hs hv
      refine ⟨locs, A.len, A.lenr, A.vw, fun M0 g as' hM hR hh => ?_⟩
      simp only [handD, Option.bind_eq_some_iff, Option.map_eq_some_iff] at hh
      obtain ⟨d', hd', as1, hh, rfl⟩ := hh
      exact ⟨DR.ren hR _ _ v hd' hd, A.go M0 g as1 hM hR hh⟩

/-! ### Lists of numbers -/
theorem reach_nodup (h : Nat → Blk) : ∀ (n : Nat) (l acc : List Nat), acc.Nodup → (reach h n l acc).Nodup
  | 0, l, acc, ha => (by unfold reach; exact List.pairwise_reverse.2 (ha.imp fun h => h.symm))
  | n + 1, [], acc, ha => (by unfold reach; exact List.pairwise_reverse.2 (ha.imp fun h => h.symm))
  | n + 1, b :: l, acc, ha => by
    unfold reach
    split
    · exact reach_nodup h n l acc ha
    · rename_i hc
      exact reach_nodup h n _ _ (List.nodup_cons.2 ⟨by simpa using hc, ha⟩)
theorem idx_go : ∀ (l : List Nat) (b i j : Nat), idx.go b l i = some j → ∃ k, j = i + k ∧ l[k]? = some b
  | [], b, i, j, h => by simp [idx.go] at h
  | c :: l, b, i, j, h => by
    unfold idx.go at h
    split at h
    · rename_i e; subst e; cases h; exact ⟨0, rfl, rfl⟩
    · obtain ⟨k, e, hk⟩ := idx_go l b (i + 1) j h
      exact ⟨k + 1, by omega, by simpa using hk⟩
theorem idx_some {l : List Nat} {b i : Nat} (h : idx l b = some i) : l[i]? = some b := by
  obtain ⟨k, e, hk⟩ := idx_go l b 0 i h
  rw [Nat.zero_add] at e; subst e; exact hk
theorem idx_go_none : ∀ (l : List Nat) (b i : Nat), idx.go b l i = none → b ∉ l
  | [], b, i, h => by simp
  | c :: l, b, i, h => by
    unfold idx.go at h
    split at h
    · cases h
    · rename_i e
      have := idx_go_none l b (i + 1) h
      simp only [List.mem_cons, not_or]
      exact ⟨fun e2 => e e2.symm, this⟩
theorem idx_none {l : List Nat} {b : Nat} (h : idx l b = none) : b ∉ l := idx_go_none l b 0 h
theorem idx_get {l : List Nat} (hn : l.Nodup) {b i : Nat} (h : l[i]? = some b) : idx l b = some i := by
  cases hx : idx l b with
  | none => exact absurd (List.mem_of_getElem? h) (idx_none hx)
  | some j =>
    have hj := idx_some hx
    have hi1 := (List.getElem?_eq_some_iff.1 h)
    have hj1 := (List.getElem?_eq_some_iff.1 hj)
    obtain ⟨h1, h2⟩ := hi1
    obtain ⟨h3, h4⟩ := hj1
    have hp := List.pairwise_iff_getElem.1 hn
    rcases Nat.lt_trichotomy i j with hlt | rfl | hlt
    · exact absurd (h2.trans h4.symm) (hp i j h1 h3 hlt)
    · rfl
    · exact absurd (h4.trans h2.symm) (hp j i h3 h1 hlt)
theorem seq_get {α : Type} : ∀ {l : List (Option α)} {m : List α}, sequence l = some m → m.length = l.length ∧ ∀ (i : Nat) (x : Option α), l[i]? = some x → ∃ y, x = some y ∧ m[i]? = some y
  | [], m, h => by cases h; exact ⟨rfl, fun i x h => by simp at h⟩
  | none :: l, m, h => by cases h
  | some a :: l, m, h => by
    simp only [sequence, Option.map_eq_some_iff] at h
    obtain ⟨m', hm, rfl⟩ := h
    obtain ⟨h1, h2⟩ := seq_get hm
    refine ⟨by simp [h1], fun i x hx => ?_⟩
    cases i with
    | zero => simp at hx; subst hx; exact ⟨a, rfl, rfl⟩
    | succ i => simpa using h2 i x (by simpa using hx)
end
end Go.AM
end
/- Calls, third part: what is known of a function, and what a call of it leaves. -/
section
set_option linter.constructorNameAsVariable false
set_option linter.unusedVariables false
set_option linter.unusedSimpArgs false
set_option linter.unnecessarySimpa false
namespace Go.AM
def Gets (P : Program) (w : World) (R : Value → World → Prop) : Result Next → Prop
  | .ok (.enter f args) w' => w' = w ∧ Calls P f args w fun e w2 => ∃ v, e = .returned v ∧ R v w2
  | _ => False
/-- What may be written: where the blocks lie that are owned. -/
def foot (M : Wd) (g : Nat) : Prop := ∃ b oo c, mutb (M.h b) = true ∧ M.ι b = some (g, oo, c)
def mIn (bs : List Blk) (ι : Nat → Option (Nat × Nat × Nat)) : Wd := ⟨fun b => b < bs.length, H bs, ι⟩
structure After (bs : List Blk) (ι : Nat → Option (Nat × Nat × Nat)) (w : World) (r : D) (hs ns : List Blk) (v : Value) (ι' : Nat → Option (Nat × Nat × Nat)) (w' : World) : Prop where
  dr : DR (mIn (hs ++ ns) ι') r v
  bl : ∀ b, BR (mIn (hs ++ ns) ι') w' b
  sp : Sep (mIn (hs ++ ns) ι')
  ke : ∀ b, b < bs.length → shp (H hs b) = none ∨ (shp (H hs b) = shp (H bs b) ∧ ι' b = ι b)
  ft : ∀ b g oo c, mutb (H (hs ++ ns) b) = true → ι' b = some (g, oo, c) → foot (mIn bs ι) g ∨ w.heap.size ≤ g
  fr : Fr (foot (mIn bs ι)) w w'
/-- What is known of a function: of its answer, of the blocks that it was handed, of its new ones. -/
def Acts (P : Program) (K : Nat) (Gl : World → Prop) (f : FuncId) (as : List D) (bs : List Blk) (r : D) (hs ns : List Blk) : Prop :=
  hs.length = bs.length ∧ (∀ k ∈ ns, mutb k = true ∨ k = .de) ∧ ∀ (w : World) (ι : Nat → Option (Nat × Nat × Nat)) (vs : List Value), Gl w → K ≤ w.heap.size → (∀ g, foot (mIn bs ι) g → K ≤ g) →
    DRL (mIn bs ι) as vs → (∀ b, BR (mIn bs ι) w b) → Sep (mIn bs ι) →
    Gets P w (fun v w' => ∃ ι', After bs ι w r hs ns v ι' w') ((callFunc f vs.toArray).run P w)
/-- What a call leaves. -/
structure Moved (M : Wd) (w : World) (d : D) (us : List (Nat × Blk)) (v : Value) (ι' : Nat → Option (Nat × Nat × Nat)) (w' : World) : Prop where
  dr : DR ⟨addU M.U us, updH M.h us, ι'⟩ d v
  bl : ∀ b, BR ⟨addU M.U us, updH M.h us, ι'⟩ w' b
  sp : Sep ⟨addU M.U us, updH M.h us, ι'⟩
  ext : Ext M ⟨addU M.U us, updH M.h us, ι'⟩
  ft : ∀ b g oo c, mutb (updH M.h us b) = true → ι' b = some (g, oo, c) → foot M g ∨ w.heap.size ≤ g
  fr : Fr (foot M) w w'
section
variable {P : Program} {K : Nat} {Gl : World → Prop} {M M' : Wd} {w w' : World} {h : Nat → Blk} {nx : Nat}
theorem find_own (s j : Nat) : ∀ (os : List Nat) (k : Nat) (q : Nat × Nat), ((os.zipIdx k).map fun p => (s + p.2, p.1)).find? (fun p => decide (p.1 = j)) = some q → ∃ i, j = s + k + i ∧ os[i]? = some q.2
  | [], k, q, h => by simp at h
  | o :: os, k, q, h => by
    simp only [List.zipIdx_cons, List.map_cons, List.find?_cons] at h
    split at h
    · rename_i e
      simp at e h
      subst h
      exact ⟨0, by omega, rfl⟩
    · obtain ⟨i, h1, h2⟩ := find_own s j os (k + 1) q h
      exact ⟨i + 1, by omega, by simpa using h2⟩
theorem updH_not : ∀ (l : List (Nat × Blk)) (h : Nat → Blk) (b : Nat), (∀ k, (b, k) ∉ l) → updH h l b = h b
  | [], h, b, _ => rfl
  | (c, k) :: l, h, b, hb => by
    have : updH h ((c, k) :: l) b = updH (fun x => if x = c then k else h x) l b := rfl
    rw [this, updH_not l _ b fun k' hk => hb k' (by simp [hk])]
    rw [if_neg]
    intro e; subst e
    exact hb k (by simp)
theorem updH_get : ∀ (l : List (Nat × Blk)) (h : Nat → Blk) (i b : Nat) (k : Blk), (l.map (·.1)).Nodup → l[i]? = some (b, k) → updH h l b = k
  | [], h, i, b, k, _, hi => by simp at hi
  | (c, k') :: l, h, 0, b, k, hn, hi => by
    simp at hi
    obtain ⟨rfl, rfl⟩ := hi
    have : updH h ((c, k') :: l) c = updH (fun x => if x = c then k' else h x) l c := rfl
    rw [this, updH_not l _ c fun k2 hk => ?_]
    · simp
    · simp only [List.map_cons, List.nodup_cons] at hn
      exact hn.1 (List.mem_map.2 ⟨_, hk, rfl⟩)
  | (c, k') :: l, h, i + 1, b, k, hn, hi => by
    have : updH h ((c, k') :: l) b = updH (fun x => if x = c then k' else h x) l b := rfl
    rw [this]
    simp only [List.map_cons, List.nodup_cons] at hn
    exact updH_get l _ i b k hn.2 (by simpa using hi)
/-- A number that is handed and the own one. -/
def Lk (os : List Nat) (s m nx len j b : Nat) : Prop := (∃ i, j = s + i ∧ os[i]? = some b) ∨ (∃ k, j = m + k ∧ k < len ∧ b = nx + k)
theorem nodup_get {l : List Nat} (hn : l.Nodup) {i j b : Nat} (hi : l[i]? = some b) (hj : l[j]? = some b) : i = j := by
  have := idx_get hn hi
  rw [idx_get hn hj] at this
  exact (Option.some.inj this).symm
theorem call_core (bl : ∀ b, BR M w b) (sp : Sep M) (hlt : ∀ b, nx ≤ b → ¬ M.U b ∨ True) {f : FuncId} {as : List D} {vs : List Value} (hv : DRL M as vs) {p : Pass} {ro : Bool} (hp : pass ro M.h as = some p) (hown : p.own.all (fun q => decide (q.2 < nx)) = true)
    {r : D} {hs ns : List Blk} (A : Acts P K Gl f p.args p.blks r hs ns) (hG : Gl w) (hK : K ≤ w.heap.size) (hF : ∀ g, foot M g → K ≤ g) (hfr : ∀ j, nx ≤ j → j < nx + ns.length → ¬ M.U j)
    (un : ∀ b, ¬ M.U b → M.h b = .de) {g2 : Nat → Option Nat} (hg2 : g2 = fun b => if b < p.blks.length then (p.own.find? (fun q => decide (q.1 = b))).map (·.2) else if b - p.blks.length < ns.length then some (nx + (b - p.blks.length)) else none)
    {d : D} (hd : r.ren g2 = some d) {us nsl : List (Nat × Blk)} (hus : sequence (p.own.map fun q => ((hs.getD q.1 .de).ren g2).map fun k => (q.2, k)) = some us)
    (hns : sequence (ns.zipIdx.map fun k => (k.1.ren g2).map fun b => (nx + k.2, b)) = some nsl) :
    Gets P w (fun v w' => ∃ ι', Moved M w d (us ++ nsl) v ι' w') ((callFunc f vs.toArray).run P w) := by
  unfold pass at hp
  split at hp
  case h_2 => cases hp
  rename_i ms ks rs hsl
  simp only at hp
  split at hp
  · cases hp
  rename_i hdis
  generalize hos : reach M.h 64 (blkL (rest as ms)) [] = os at *
  have hnd : os.Nodup := by rw [← hos]; exact reach_nodup _ _ _ _ List.nodup_nil
  split at hp
  case h_2 => cases hp
  rename_i as' bs hhand hseq
  simp only [Option.some.injEq] at hp
  subst hp
  simp only at A hown hg2 hus
  obtain ⟨locs, V⟩ := slices_ok bl (fun b g o c e ha => (bl b).lt ha e) as vs 0 ms ks rs hsl hv
  obtain ⟨hbl, hbg⟩ := seq_get hseq
  simp only [List.length_map] at hbl
  generalize hs0 : ks.length = s at *
  have hlen : (ks ++ bs).length = s + os.length := by rw [List.length_append, hs0, hbl]
  obtain ⟨hhl, hnm, A⟩ := A
  let ι0 : Nat → Option (Nat × Nat × Nat) := fun j => if j < s then locs.getD j none else (os[j - s]?).bind M.ι
  have hM0 : mIn (ks ++ bs) ι0 = mIn (ks ++ bs) ι0 := rfl
  generalize hMdef : mIn (ks ++ bs) ι0 = M0 at hM0
  have f1 : ∀ i k loc, ks[i]? = some k → locs[i]? = some loc → M0.h (0 + i) = k ∧ M0.ι (0 + i) = loc ∧ M0.U (0 + i) := by
    intro i k loc h1 h2
    have hi : i < s := by rw [← hs0]; exact (List.getElem?_eq_some_iff.1 h1).1
    subst hMdef
    refine ⟨?_, ?_, ?_⟩
    · simp only [mIn, H, Nat.zero_add, List.getD_eq_getElem?_getD]
      rw [List.getElem?_append_left (by omega), h1]; rfl
    · simp only [mIn, ι0, Nat.zero_add, if_pos hi, List.getD_eq_getElem?_getD, h2]; rfl
    · simp only [mIn, Nat.zero_add]; omega
  have f2 : ∀ i b, os[i]? = some b → ∃ k, (M.h b).ren (fun b => (idx os b).map (s + ·)) = some k ∧ M0.h (s + i) = k ∧ M0.ι (s + i) = M.ι b ∧ M0.U (s + i) := by
    intro i b hb
    obtain ⟨k, h1, h2⟩ := hbg i _ (by rw [List.getElem?_map, hb]; rfl)
    subst hMdef
    refine ⟨k, h1, ?_, ?_, ?_⟩
    · simp only [mIn, H, List.getD_eq_getElem?_getD]
      rw [List.getElem?_append_right (by omega), hs0, Nat.add_sub_cancel_left, h2]; rfl
    · simp only [mIn, ι0]
      rw [if_neg (by omega), Nat.add_sub_cancel_left, hb]; rfl
    · have := (List.getElem?_eq_some_iff.1 hb).1
      simp only [mIn]; omega
  have f3 : ∀ j, M0.h j ≠ .de → (∃ i k loc b, j = 0 + i ∧ i < s ∧ ks[i]? = some k ∧ locs[i]? = some loc ∧ rs[i]? = some b) ∨ ∃ i b, j = s + i ∧ os[i]? = some b := by
    intro j hj
    by_cases h1 : j < s
    · left
      have hk : j < ks.length := by omega
      have hlo : j < locs.length := by rw [V.len]; omega
      have hro : j < rs.length := by rw [V.lenr]; omega
      exact ⟨j, _, _, _, (Nat.zero_add j).symm, h1, List.getElem?_eq_getElem hk, List.getElem?_eq_getElem hlo, List.getElem?_eq_getElem hro⟩
    · right
      by_cases h2 : j - s < os.length
      · exact ⟨j - s, _, by omega, List.getElem?_eq_getElem h2⟩
      · exfalso
        apply hj
        subst hMdef
        simp only [mIn, H, List.getD_eq_getElem?_getD]
        rw [List.getElem?_eq_none (by rw [hlen]; omega)]; rfl
  have hR0 : Ren M M0 (fun b => (idx os b).map (s + ·)) := by
    intro b b' hb hu
    simp only [Option.map_eq_some_iff] at hb
    obtain ⟨i, hi, rfl⟩ := hb
    obtain ⟨k, h1, h2, h3, h4⟩ := f2 i b (idx_some hi)
    exact ⟨h4, .inr ⟨by rw [h2]; exact (shp_ren h1).1, h3⟩⟩
  have hDR : DRL M0 as' vs := V.go M0 _ as' (fun i k loc h1 h2 => f1 i k loc h1 h2) hR0 hhand
  have hBR : ∀ j, BR M0 w j := by
    intro j
    by_cases hj : M0.h j = .de
    · unfold BR; rw [hj]; exact trivial
    · rcases f3 j hj with ⟨i, k, loc, b, rfl, hi, h1, h2, h3⟩ | ⟨i, b, rfl, hb⟩
      · obtain ⟨v, f', W⟩ := V.vw i k loc b h1 h2 h3
        obtain ⟨e1, e2, e3⟩ := f1 i k loc h1 h2
        exact W.br M0 _ e1 e2
      · obtain ⟨k, h1, h2, h3, h4⟩ := f2 i b hb
        exact BR.ren hR0 (bl b) h1 h2 h3
  have hmut : ∀ j, mutb (M0.h j) = true → ∃ i b, j = s + i ∧ os[i]? = some b ∧ mutb (M.h b) = true ∧ M0.ι j = M.ι b := by
    intro j hj
    rcases f3 j (by intro e; rw [e] at hj; cases hj) with ⟨i, k, loc, b, rfl, hi, h1, h2, h3⟩ | ⟨i, b, rfl, hb⟩
    · obtain ⟨v, f', W⟩ := V.vw i k loc b h1 h2 h3
      rw [(f1 i k loc h1 h2).1, W.nm] at hj
      cases hj
    · obtain ⟨k, h1, h2, h3, h4⟩ := f2 i b hb
      exact ⟨i, b, rfl, hb, by rw [h2, (shp_ren h1).2] at hj; exact hj, h3⟩
  have hft0 : ∀ g, foot M0 g → ∃ (i b oo c : Nat), os[i]? = some b ∧ mutb (M.h b) = true ∧ M.ι b = some (g, oo, c) := by
    rintro g ⟨j, oo, c, h1, h2⟩
    obtain ⟨i, b, rfl, hb, h3, h4⟩ := hmut j h1
    exact ⟨i, b, oo, c, hb, h3, by rw [← h4]; exact h2⟩
  have hft1 : ∀ g, foot M0 g → foot M g := fun g hg => by
    obtain ⟨i, b, oo, c, _, h1, h2⟩ := hft0 g hg
    exact ⟨b, oo, c, h1, h2⟩
  have hSep : Sep M0 := by
    intro j j' g oo c g' oo' c' hne hm hnd' h1 h2
    obtain ⟨i, b, rfl, hb, h3, h4⟩ := hmut j hm
    rw [h4] at h1
    rcases f3 j' hnd' with ⟨i', k, loc, b', rfl, hi, e1, e2, e3⟩ | ⟨i', b', rfl, hb'⟩
    · obtain ⟨v, f', W⟩ := V.vw i' k loc b' e1 e2 e3
      rw [(f1 i' k loc e1 e2).2.1] at h2
      obtain ⟨o2, c2, h5⟩ := W.at' _ _ _ h2
      refine sp b b' g oo c g' o2 c2 ?_ h3 W.hr h1 h5
      rintro rfl
      apply hdis
      exact List.any_eq_true.2 ⟨b, List.mem_of_getElem? hb, by simpa using List.mem_of_getElem? e3⟩
    · obtain ⟨k, e1, e2, e3, e4⟩ := f2 i' b' hb'
      rw [e3] at h2
      refine sp b b' g oo c g' oo' c' ?_ h3 ?_ h1 h2
      · rintro rfl
        exact hne (by rw [nodup_get hnd hb hb'])
      · intro e
        rw [e] at e1
        simp [Blk.ren] at e1
        exact hnd' (by rw [e2, ← e1])
  have A := A w ι0 vs hG hK (by rw [hMdef]; exact fun g hg => hF g (hft1 g hg)) (by rw [hMdef]; exact hDR) (by rw [hMdef]; exact hBR) (by rw [hMdef]; exact hSep)
  have fin : ∀ v w', (∃ ι', After (ks ++ bs) ι0 w r hs ns v ι' w') → ∃ ι', Moved M w d (us ++ nsl) v ι' w' := by
    rintro v w' ⟨ι', X⟩
    have hm : hs.length = s + os.length := by rw [hhl, hlen]
    obtain ⟨ul, ug⟩ := seq_get hus
    obtain ⟨nl, ng⟩ := seq_get hns
    simp only [List.length_map, List.length_zipIdx] at ul nl
    have us1 : ∀ (i b : Nat), os[i]? = some b → ∃ k, (H hs (s + i)).ren g2 = some k ∧ us[i]? = some (b, k) := by
      intro i b hb
      obtain ⟨y, h1, h2⟩ := ug i _ (by rw [List.getElem?_map, List.getElem?_map, List.getElem?_zipIdx, hb]; rfl)
      simp only [Nat.zero_add, Option.map_eq_some_iff] at h1
      obtain ⟨k, h1, rfl⟩ := h1
      exact ⟨k, h1, h2⟩
    have ns1 : ∀ (k : Nat) (x : Blk), ns[k]? = some x → ∃ y, x.ren g2 = some y ∧ nsl[k]? = some (nx + k, y) := by
      intro k x hx
      obtain ⟨y, h1, h2⟩ := ng k _ (by rw [List.getElem?_map, List.getElem?_zipIdx, hx]; rfl)
      simp only [Nat.zero_add, Option.map_eq_some_iff] at h1
      obtain ⟨k, h1, rfl⟩ := h1
      exact ⟨k, h1, h2⟩
    have hk1 : us.map (·.1) = os := List.ext_getElem? fun i => by
      rw [List.getElem?_map]
      cases hb : os[i]? with
      | none => rw [List.getElem?_eq_none (by rw [ul]; exact List.getElem?_eq_none_iff.1 hb)]; rfl
      | some b => obtain ⟨k, _, h2⟩ := us1 i b hb; rw [h2]; rfl
    have hk2 : ∀ x ∈ nsl, ∃ k, k < ns.length ∧ x.1 = nx + k := by
      intro x hx
      obtain ⟨k, hk⟩ := List.getElem?_of_mem hx
      have hlt : k < ns.length := by rw [← nl]; exact (List.getElem?_eq_some_iff.1 hk).1
      obtain ⟨y, _, h2⟩ := ns1 k _ (List.getElem?_eq_getElem hlt)
      rw [hk] at h2
      cases h2
      exact ⟨k, hlt, rfl⟩
    have hlow : ∀ (i b : Nat), os[i]? = some b → b < nx := by
      intro i b hb
      have := List.all_eq_true.1 hown (s + i, b) (List.mem_map.2 ⟨(b, i), by rw [List.mem_iff_getElem?]; exact ⟨i, by rw [List.getElem?_zipIdx, hb]; simp⟩, rfl⟩)
      simpa using this
    have hknd : ((us ++ nsl).map (·.1)).Nodup := by
      rw [List.map_append, hk1]
      refine List.nodup_append.2 ⟨hnd, ?_, ?_⟩
      · refine List.pairwise_iff_getElem.2 fun i j hi hj hij => ?_
        simp only [List.length_map] at hi hj
        simp only [List.getElem_map]
        obtain ⟨y, _, h2⟩ := ns1 i _ (List.getElem?_eq_getElem (by omega))
        obtain ⟨z, _, h3⟩ := ns1 j _ (List.getElem?_eq_getElem (by omega))
        rw [List.getElem?_eq_getElem hi] at h2
        rw [List.getElem?_eq_getElem hj] at h3
        rw [Option.some.inj h2, Option.some.inj h3]
        show nx + i ≠ nx + j
        omega
      · intro b hb c hc
        obtain ⟨i, hi⟩ := List.getElem?_of_mem hb
        obtain ⟨x, hx, rfl⟩ := List.mem_map.1 hc
        obtain ⟨k, _, e⟩ := hk2 x hx
        have := hlow i b hi
        omega
    let ι2 : Nat → Option (Nat × Nat × Nat) := fun b => match idx os b with | some i => ι' (s + i) | none => if nx ≤ b ∧ b < nx + ns.length then ι' (s + os.length + (b - nx)) else M.ι b
    have L1 : ∀ j b, Lk os s (s + os.length) nx ns.length j b → ∃ k, (H (hs ++ ns) j).ren g2 = some k ∧ updH M.h (us ++ nsl) b = k ∧ ι2 b = ι' j ∧ addU M.U (us ++ nsl) b ∧ j < (hs ++ ns).length := by
      rintro j b (⟨i, rfl, hb⟩ | ⟨k, rfl, hk, rfl⟩)
      · obtain ⟨k, h1, h2⟩ := us1 i b hb
        have hi := (List.getElem?_eq_some_iff.1 hb).1
        have hi2 := (List.getElem?_eq_some_iff.1 h2).1
        refine ⟨k, ?_, ?_, ?_, .inr ⟨k, List.mem_append_left _ (List.mem_of_getElem? h2)⟩, by rw [List.length_append]; omega⟩
        · rw [← h1]; unfold H
          rw [List.getD_eq_getElem?_getD, List.getD_eq_getElem?_getD, List.getElem?_append_left (by omega)]
        · exact updH_get _ _ i b k hknd (by rw [List.getElem?_append_left hi2]; exact h2)
        · simp only [ι2, idx_get hnd hb]
      · obtain ⟨y, h1, h2⟩ := ns1 k _ (List.getElem?_eq_getElem hk)
        refine ⟨y, ?_, ?_, ?_, .inr ⟨y, List.mem_append_right _ (List.mem_of_getElem? h2)⟩, by rw [List.length_append]; omega⟩
        · rw [← h1]; unfold H
          rw [List.getD_eq_getElem?_getD, List.getElem?_append_right (by omega), show s + os.length + k - hs.length = k by omega, List.getElem?_eq_getElem hk]; rfl
        · exact updH_get _ _ (us.length + k) (nx + k) y hknd (by rw [List.getElem?_append_right (by omega), Nat.add_sub_cancel_left]; exact h2)
        · have hno : idx os (nx + k) = none := by
            cases hx : idx os (nx + k) with
            | none => rfl
            | some i => have := hlow i _ (idx_some hx); omega
          simp only [ι2, hno]
          rw [if_pos ⟨by omega, by omega⟩, Nat.add_sub_cancel_left]
    have L2 : ∀ b, (∃ j, Lk os s (s + os.length) nx ns.length j b) ∨ (updH M.h (us ++ nsl) b = M.h b ∧ ι2 b = M.ι b ∧ ∀ (i : Nat), os[i]? ≠ some b) := by
      intro b
      cases hx : idx os b with
      | some i => exact .inl ⟨_, .inl ⟨i, rfl, idx_some hx⟩⟩
      | none =>
        by_cases hr : nx ≤ b ∧ b < nx + ns.length
        · exact .inl ⟨_, .inr ⟨b - nx, rfl, by omega, by omega⟩⟩
        · refine .inr ⟨updH_not _ _ _ fun k hk => ?_, by simp only [ι2, hx, if_neg hr], fun i hi => idx_none hx (List.mem_of_getElem? hi)⟩
          rcases List.mem_append.1 hk with hk | hk
          · apply idx_none hx
            rw [← hk1]
            exact List.mem_map.2 ⟨_, hk, rfl⟩
          · obtain ⟨k', h1, h2⟩ := hk2 _ hk
            simp only at h2
            exact hr ⟨by omega, by omega⟩
    have L3 : ∀ j b, g2 j = some b → Lk os s (s + os.length) nx ns.length j b := by
      intro j b hj
      rw [hg2] at hj
      simp only [hlen] at hj
      split at hj
      · simp only [Option.map_eq_some_iff] at hj
        obtain ⟨q, hq, rfl⟩ := hj
        obtain ⟨i, h1, h2⟩ := find_own s j os 0 q hq
        exact .inl ⟨i, by omega, h2⟩
      · split at hj
        · cases hj
          rename_i h1 h2
          exact .inr ⟨j - (s + os.length), by omega, h2, rfl⟩
        · cases hj
    have hRen : Ren (mIn (hs ++ ns) ι') ⟨addU M.U (us ++ nsl), updH M.h (us ++ nsl), ι2⟩ g2 := by
      intro j b hj hu
      obtain ⟨k, h1, h2, h3, h4, _⟩ := L1 j b (L3 j b hj)
      exact ⟨h4, .inr ⟨by show shp (updH M.h (us ++ nsl) b) = _; rw [h2]; exact (shp_ren h1).1, h3⟩⟩
    have hke : ∀ (i b : Nat), os[i]? = some b → shp (updH M.h (us ++ nsl) b) = none ∨ (shp (updH M.h (us ++ nsl) b) = shp (M.h b) ∧ ι' (s + i) = M.ι b) := by
      intro i b hb
      obtain ⟨k, h1, h2⟩ := us1 i b hb
      obtain ⟨k', e1, e2, _⟩ := L1 _ b (.inl ⟨i, rfl, hb⟩)
      obtain ⟨k0, q1, q2, q3, _⟩ := f2 i b hb
      have hi := (List.getElem?_eq_some_iff.1 hb).1
      have hH : H (hs ++ ns) (s + i) = H hs (s + i) := by
        unfold H
        rw [List.getD_eq_getElem?_getD, List.getD_eq_getElem?_getD, List.getElem?_append_left (by omega)]
      rw [e2, (shp_ren e1).1, hH]
      rcases X.ke (s + i) (by rw [hlen]; omega) with h | ⟨h, h'⟩
      · exact .inl h
      · refine .inr ⟨?_, ?_⟩
        · rw [h, ← (shp_ren q1).1, ← q2, ← hMdef]; rfl
        · rw [h', ← q3, ← hMdef]; rfl
    have hext : Ext M ⟨addU M.U (us ++ nsl), updH M.h (us ++ nsl), ι2⟩ := by
      intro b hb
      refine ⟨.inl hb, ?_⟩
      rcases L2 b with ⟨j, hL⟩ | ⟨h1, h2, _⟩
      · obtain ⟨k, e1, e2, e3, _⟩ := L1 j b hL
        rcases hL with ⟨i, rfl, hbi⟩ | ⟨k', rfl, hk, rfl⟩
        · rcases hke i b hbi with h | ⟨h, h'⟩
          · exact .inl h
          · exact .inr ⟨h, by rw [← h', ← e3]⟩
        · exact absurd hb (hfr _ (by omega) (by omega))
      · exact .inr ⟨by show shp (updH M.h (us ++ nsl) b) = _; rw [h1], h2⟩
    have hXft : ∀ g, foot (mIn (ks ++ bs) ι0) g → ∃ (i b oo c : Nat), os[i]? = some b ∧ mutb (M.h b) = true ∧ M.ι b = some (g, oo, c) := by rw [hMdef]; exact hft0
    have hmk : ∀ j b, Lk os s (s + os.length) nx ns.length j b → mutb (updH M.h (us ++ nsl) b) = mutb (H (hs ++ ns) j) ∧ (updH M.h (us ++ nsl) b ≠ .de → H (hs ++ ns) j ≠ .de) := by
      intro j b hL
      obtain ⟨k, e1, e2, _⟩ := L1 j b hL
      rw [e2]
      exact ⟨(shp_ren e1).2, fun hne e => hne (by rw [e] at e1; simp [Blk.ren] at e1; exact e1.symm)⟩
    refine ⟨ι2, DR.ren hRen r d v hd X.dr, fun b => ?_, ?_, hext, ?_, ?_⟩
    · rcases L2 b with ⟨j, hL⟩ | ⟨h1, h2, h3⟩
      · obtain ⟨k, e1, e2, e3, e4, e5⟩ := L1 j b hL
        exact BR.ren hRen (X.bl j) e1 e2 e3
      · refine BR.same (bl b) h1 h2 hext fun g oo c hne hg => ?_
        refine X.fr.block g ((bl b).lt hne hg) fun hf => ?_
        obtain ⟨i, b1, o1, c1, q1, q2, q3⟩ := hXft g hf
        exact sp b1 b g o1 c1 g oo c (fun e => h3 i (by rw [q1, e])) q2 hne q3 hg rfl
    · intro b b' g oo c g' oo' c' hne hm1 hd1 hg hg'
      have hm1 : mutb (updH M.h (us ++ nsl) b) = true := hm1
      have hd1 : updH M.h (us ++ nsl) b' ≠ .de := hd1
      have hg : ι2 b = some (g, oo, c) := hg
      have hg' : ι2 b' = some (g', oo', c') := hg'
      rcases L2 b with ⟨j, hL⟩ | ⟨h1, h2, h3⟩
      · obtain ⟨k, e1, e2, e3, e4, e5⟩ := L1 j b hL
        rw [(hmk j b hL).1] at hm1
        rw [e3] at hg
        rcases L2 b' with ⟨j', hL'⟩ | ⟨h1, h2, h3⟩
        · obtain ⟨k', e1', e2', e3', _⟩ := L1 j' b' hL'
          rw [e3'] at hg'
          refine X.sp j j' g oo c g' oo' c' ?_ hm1 ((hmk j' b' hL').2 hd1) hg hg'
          rintro rfl
          rcases hL with ⟨i, q1, q2⟩ | ⟨i, q1, q2, q3⟩ <;> rcases hL' with ⟨i', p1, p2⟩ | ⟨i', p1, p2, p3⟩
          · have : i = i' := by omega
            subst this
            rw [q2] at p2
            exact hne (Option.some.inj p2)
          · have := (List.getElem?_eq_some_iff.1 q2).1; omega
          · have := (List.getElem?_eq_some_iff.1 p2).1; omega
          · exact hne (by omega)
        · rw [h1] at hd1
          rw [h2] at hg'
          rcases X.ft j g oo c hm1 hg with hf | hf
          · obtain ⟨i, b1, o1, c1, q1, q2, q3⟩ := hXft g hf
            exact sp b1 b' g o1 c1 g' oo' c' (fun e => h3 i (by rw [q1, e])) q2 hd1 q3 hg'
          · have := (bl b').lt hd1 hg'
            omega
      · rw [h1] at hm1
        rw [h2] at hg
        rcases L2 b' with ⟨j', hL'⟩ | ⟨h1', h2', h3'⟩
        · obtain ⟨k', e1', e2', e3', _⟩ := L1 j' b' hL'
          rw [e3'] at hg'
          have viaft : foot (mIn (ks ++ bs) ι0) g' ∨ w.heap.size ≤ g' → g ≠ g' := by
            rintro (hf | hf)
            · obtain ⟨i, b1, o1, c1, q1, q2, q3⟩ := hXft g' hf
              refine sp b b1 g oo c g' o1 c1 (fun e => h3 i (by rw [q1, e])) hm1 ?_ hg q3
              intro e; rw [e] at q2; cases q2
            · have := (bl b).lt (by intro e; rw [e] at hm1; cases hm1) hg
              omega
          rcases hL' with ⟨i', rfl, p2⟩ | ⟨i', rfl, p2, p3⟩
          · rcases hke i' b' p2 with hs' | ⟨hs', hi'⟩
            · exfalso
              revert hs' hd1
              cases updH M.h (us ++ nsl) b' <;> simp [shp]
            · rw [hi'] at hg'
              refine sp b b' g oo c g' oo' c' hne hm1 ?_ hg hg'
              intro e
              rw [e] at hs'
              revert hs' hd1
              cases updH M.h (us ++ nsl) b' <;> simp [shp]
          · have hne2 := (hmk _ b' (.inr ⟨i', rfl, p2, p3⟩)).2 hd1
            refine viaft (X.ft _ g' oo' c' ?_ hg')
            have hx : H (hs ++ ns) (s + os.length + i') = ns[i'] := by
              unfold H
              rw [List.getD_eq_getElem?_getD, List.getElem?_append_right (by omega), show s + os.length + i' - hs.length = i' by omega, List.getElem?_eq_getElem p2]; rfl
            rw [hx] at hne2 ⊢
            exact (hnm _ (List.getElem_mem p2)).resolve_right hne2
        · rw [h1'] at hd1
          rw [h2'] at hg'
          exact sp b b' g oo c g' oo' c' hne hm1 hd1 hg hg'
    · intro b g oo c hm1 hg
      rcases L2 b with ⟨j, hL⟩ | ⟨h1, h2, h3⟩
      · obtain ⟨k, e1, e2, e3, _⟩ := L1 j b hL
        rw [(hmk j b hL).1] at hm1
        rw [e3] at hg
        rcases X.ft j g oo c hm1 hg with hf | hf
        · exact .inl (hft1 g (by rw [← hMdef]; exact hf))
        · exact .inr hf
      · rw [h1] at hm1
        rw [h2] at hg
        exact .inl ⟨b, oo, c, hm1, hg⟩
    · exact ⟨X.fr.os, X.fr.tape, X.fr.output, X.fr.size, fun k hk hf => X.fr.block k hk fun hf' => hf (hft1 k (by rw [← hMdef]; exact hf'))⟩
  revert A
  generalize (callFunc f vs.toArray).run P w = rr
  intro A
  cases rr with
  | ok n w1 =>
    cases n <;> first | exact A.elim | skip
    case enter f1 args1 => exact ⟨A.1, A.2.mono fun e w2 ⟨v, he, hA⟩ => ⟨v, he, fin v w2 hA⟩⟩
  | halt x w1 => exact A.elim
end
end Go.AM
end
