/- What is known of the library's functions, as the machine wants it. -/
import Derived.Test.YtgeignldbgncbaaGreatDoorKA3
import Derived.Below
section
set_option linter.constructorNameAsVariable false
set_option linter.unusedVariables false
set_option linter.unusedSimpArgs false
namespace Go.AM
open Go.RowKit
section
variable {P : Program} {K : Nat} {Gl : World → Prop} {w w' : World} {ι : Nat → Option (Nat × Nat × Nat)} {M : Wd}
theorem fr_below {F : Nat → Prop} (h : Below w.heap.size w w') : Fr F w w' := ⟨h.os, h.tape, h.output, h.size, fun k hk _ => h.block k hk⟩
/-- A function that leaves all that is there alone and hands back a value without new blocks. -/
theorem acts0 {f : FuncId} {xs : List D} {bs : List Blk} {r : D} (HH : ∀ (w : World) (ι : Nat → Option (Nat × Nat × Nat)) (vs : List Value), Gl w → K ≤ w.heap.size → DRL (mIn bs ι) xs vs → (∀ b, BR (mIn bs ι) w b) →
      (callFunc f vs.toArray).run P w = .ok (.enter f vs.toArray) w ∧ Calls P f vs.toArray w fun e w' => ∃ v, e = .returned v ∧ DR (mIn bs ι) r v ∧ Below w.heap.size w w') : Acts P K Gl f xs bs r bs [] := by
  refine ⟨rfl, fun k hk => by simp at hk, fun w ι vs hG hK hF hv hbl hsp => ?_⟩
  obtain ⟨h1, h2⟩ := HH w ι vs hG hK hv hbl
  rw [h1]
  refine ⟨rfl, Calls.mono h2 fun e w2 ⟨v, he, hd, hb⟩ => ⟨v, he, ι, ?_⟩⟩
  have e0 : mIn (bs ++ []) ι = mIn bs ι := by rw [List.append_nil]
  refine ⟨by rw [e0]; exact hd, by rw [e0]; exact fun b => BR.same (hbl b) rfl rfl (Ext.refl _) fun g oo c hne hi => hb.block g ((hbl b).lt hne hi), by rw [e0]; exact hsp, fun b _ => .inr ⟨rfl, rfl⟩, fun b g oo c h3 h4 => .inl ⟨b, oo, c, ?_, h4⟩, fr_below hb⟩
  rw [List.append_nil] at h3
  exact h3
/-- .. that hands back a new row. -/
theorem acts1 {f : FuncId} {xs : List D} {bs : List Blk} {ee : TypeId} {t : Ty} {l : List t.den} (hn : t.nr = 0) (hs : 0 < t.sz) (hw : ∀ y ∈ l, wf t y) (HH : ∀ (w : World) (ι : Nat → Option (Nat × Nat × Nat)) (vs : List Value), Gl w → K ≤ w.heap.size → DRL (mIn bs ι) xs vs → (∀ b, BR (mIn bs ι) w b) →
      (callFunc f vs.toArray).run P w = .ok (.enter f vs.toArray) w ∧ Calls P f vs.toArray w fun e w' => ∃ v, e = .returned v ∧ w'.ownsRow w.heap.size ee t.sz v l.length (rowv t l) ∧ Below w.heap.size w w') :
    Acts P K Gl f xs bs (.v (.r .s) () [.w bs.length]) bs [.w ee t l true] := by
  refine ⟨rfl, fun k hk => by simp at hk; subst hk; exact .inl rfl, fun w ι vs hG hK hF hv hbl hsp => ?_⟩
  obtain ⟨h1, h2⟩ := HH w ι vs hG hK hv hbl
  rw [h1]
  refine ⟨rfl, Calls.mono h2 fun e w2 ⟨v, he, ho, hb⟩ => ⟨v, he, ?_⟩⟩
  obtain ⟨loc, hloc, hvl⟩ : ∃ loc : Option (Nat × Nat × Nat), (∀ g oo c, loc = some (g, oo, c) → w.heap.size ≤ g) ∧ ((loc = none ∧ v = .slice none 0 0 ∧ l.length = 0) ∨ ∃ g c, loc = some (g, 0, c) ∧ v = .slice (some ⟨g, 0, none⟩) l.length c ∧ l.length ≤ c) := by
    rcases ho.2 with ⟨e1, e2⟩ | ⟨g, cap, cur, e1, e2, e3, e4, _⟩
    · exact ⟨none, (fun g oo c h => by cases h), .inl ⟨rfl, e1, e2⟩⟩
    · exact ⟨some (g, 0, cap), (fun g oo c h => by cases h; exact e2), .inr ⟨g, cap, rfl, e1, e4⟩⟩
  have eH : H (bs ++ [Blk.w ee t l true]) = hNew (H bs) bs.length (.w ee t l true) none := H_app _ _
  have hx : Ext (mIn bs ι) (mIn (bs ++ [Blk.w ee t l true]) (iNew ι bs.length loc)) := fun b hb => by
    have hb : b < bs.length := hb
    refine ⟨by show b < (bs ++ [_]).length; simp; omega, .inr ⟨?_, ?_⟩⟩
    · show shp (H (bs ++ [_]) b) = _
      rw [eH]; simp [hNew, Nat.ne_of_lt hb]; rfl
    · show iNew ι bs.length loc b = ι b
      simp [iNew, Nat.ne_of_lt hb]
  have hnew : (mIn (bs ++ [Blk.w ee t l true]) (iNew ι bs.length loc)).h bs.length = .w ee t l true := by
    show H (bs ++ [_]) bs.length = _
    rw [eH]; simp [hNew]
  have hold : ∀ b, b ≠ bs.length → (mIn (bs ++ [Blk.w ee t l true]) (iNew ι bs.length loc)).h b = H bs b := fun b hb => by
    show H (bs ++ [_]) b = _
    rw [eH]; simp [hNew, hb]
  have hio : ∀ b, b ≠ bs.length → iNew ι bs.length loc b = ι b := fun b hb => by simp [iNew, hb]
  have hin : iNew ι bs.length loc bs.length = loc := by simp [iNew]
  refine ⟨iNew ι bs.length loc, ?_, fun b => ?_, ?_, fun b hb => .inr ⟨rfl, hio b (Nat.ne_of_lt hb)⟩, fun b g oo c h3 h4 => ?_, fr_below hb⟩
  · refine ⟨trivial, rfl, ?_, ?_⟩
    · rcases hvl with ⟨_, e, _⟩ | ⟨g, c, _, e, _⟩ <;> rw [e] <;> rfl
    · have hcell : v.cells.toList = [v] ∧ v.oneCell' = true := by rcases hvl with ⟨_, e, _⟩ | ⟨g, c, _, e, _⟩ <;> rw [e] <;> exact ⟨rfl, rfl⟩
      rw [hcell.1]
      refine ⟨⟨⟨by show bs.length < (bs ++ [_]).length; simp, fun k t' n hk => ?_⟩, hcell.2⟩, trivial⟩
      rw [hnew] at hk
      simp only [shp, Option.some.injEq, Prod.mk.injEq] at hk
      obtain ⟨rfl, rfl, rfl⟩ := hk
      show match iNew ι bs.length loc bs.length with | none => _ | some (g, o, c) => _
      rw [hin]
      rcases hvl with ⟨rfl, e, e0⟩ | ⟨g, c, rfl, e, e0⟩
      · exact ⟨e, e0⟩
      · exact ⟨e, e0⟩
  · by_cases hbe : b = bs.length
    · subst hbe
      unfold BR
      rw [hnew]
      refine ⟨hn, hs, hw, fun _ => ?_, fun h => by simp at h⟩
      show w2.ownsRow 0 ee t.sz (match iNew ι bs.length loc bs.length with | none => Value.slice none 0 0 | some (g, o, c) => .slice (some ⟨g, o, none⟩) l.length c) l.length (rowv t l)
      rw [hin]
      have ho' : w2.ownsRow 0 ee t.sz v l.length (rowv t l) := by
        refine ⟨ho.1, ?_⟩
        rcases ho.2 with e1 | ⟨g, cap, cur, e1, e2, e3⟩
        · exact .inl e1
        · exact .inr ⟨g, cap, cur, e1, Nat.zero_le _, e3⟩
      rcases hvl with ⟨rfl, e, _⟩ | ⟨g, c, rfl, e, _⟩
      · rw [e] at ho'; exact ho'
      · rw [e] at ho'; exact ho'
    · exact BR.same (hbl b) (hold b hbe) (hio b hbe) hx fun g oo c hne hi => hb.block g ((hbl b).lt hne hi)
  · intro b b' g oo c g' oo' c' hne h3 h4 h5 h6
    by_cases hb1 : b = bs.length
    · subst hb1
      have h5 : iNew ι bs.length loc bs.length = some (g, oo, c) := h5
      have h6 : iNew ι bs.length loc b' = some (g', oo', c') := h6
      rw [hin] at h5
      rw [hio b' (Ne.symm hne)] at h6
      rw [hold b' (Ne.symm hne)] at h4
      have := (hbl b').lt h4 h6
      have := hloc _ _ _ h5
      omega
    · by_cases hb2 : b' = bs.length
      · subst hb2
        have h5 : iNew ι bs.length loc b = some (g, oo, c) := h5
        have h6 : iNew ι bs.length loc bs.length = some (g', oo', c') := h6
        rw [hin] at h6
        rw [hio b hb1] at h5
        rw [hold b hb1] at h3
        have := (hbl b).lt (mutb_alive h3) h5
        have := hloc _ _ _ h6
        omega
      · rw [hold b hb1] at h3
        rw [hold b' hb2] at h4
        have h5 : iNew ι bs.length loc b = some (g, oo, c) := h5
        have h6 : iNew ι bs.length loc b' = some (g', oo', c') := h6
        rw [hio b hb1] at h5
        rw [hio b' hb2] at h6
        exact hsp b b' g oo c g' oo' c' hne h3 h4 h5 h6
  · by_cases hb1 : b = bs.length
    · subst hb1
      rw [hin] at h4
      exact .inr (hloc _ _ _ h4)
    · rw [hio b hb1] at h4
      refine .inl ⟨b, oo, c, ?_, h4⟩
      have h3 : mutb (H (bs ++ [Blk.w ee t l true]) b) = true := h3
      have := hold b hb1
      rw [show H (bs ++ [Blk.w ee t l true]) b = H bs b from this] at h3
      exact h3
/-- A row of texts that is read alone, as the world has it. -/
theorem row_strings {b : Nat} {ee : TypeId} {l : List ByteArray} {own : Bool} {v : Value} (hb : BR M w b) (hh : M.h b = .w ee .s l own) (hd : DR M (.v (.r .s) () [.w b]) v) :
    (l = [] ∧ ∃ a c, v = .slice a 0 c) ∨ ∃ g o c, v = .slice (some ⟨g, o, none⟩) l.length c ∧ g < w.heap.size ∧ l.length ≤ c ∧ ∀ (j : Nat) x, l[j]? = some x → w.cell? ⟨g, o + j, none⟩ = some (.string x) := by
  obtain ⟨r, er, hr⟩ := dr_r hd
  simp at er; subst er
  have h1 := hr.2 1 .s l.length (by rw [hh]; rfl)
  cases hi : M.ι b with
  | none =>
    rw [hi] at h1
    exact .inl ⟨List.eq_nil_of_length_eq_zero h1.2, none, 0, h1.1⟩
  | some p =>
    obtain ⟨g, o, c⟩ := p
    rw [hi] at h1
    have hrr := row_range hb hh hi
    refine .inr ⟨g, o, c, h1.1, hb.lt (by rw [hh]; simp) hi, h1.2, fun j x hj => ?_⟩
    refine hrr j (.string x) ?_
    have : rowv Ty.s l = l.map Value.string := by
      clear hj hrr h1 hr hd hb hh hi
      induction l with
      | nil => rfl
      | cons y l ih => simp only [rowv, List.flatMap_cons, cs, List.map_cons, List.map_nil, val1] at ih ⊢; rw [ih]; rfl
    rw [this, List.getElem?_map, hj]; rfl
end
end Go.AM
end
/- From a function's contract to its call by a statement's row. -/
section
set_option linter.unusedVariables false
set_option linter.unusedSimpArgs false
namespace Go.AM
open Go.RowKit
section
variable {P : Program} {K : Nat} {Gl : World → Prop}
/-- A function that is handed values alone: what it answers, and that it leaves all that is there alone. -/
theorem fok_calls {f : Nat} {cf : Cf} (h : FOk P K Gl f cf) {x : cf.a.X × cf.b.X} {y : _} (hy : cf.f x = some y) (hb : cf.b.enc x.2 = []) (w : World) (hG : Gl w) (hK : K ≤ w.heap.size) {vs : List Value}
    (he : (callFunc f vs.toArray).run P w = .ok (.enter f vs.toArray) w) (hv : DRL (mIn [] fun _ => none) (cf.a.enc x.1) vs) :
    Calls P f vs.toArray w fun e w' => ∃ v ι', e = .returned v ∧ DR (mIn ((encR cf.r y).2.1 ++ (encR cf.r y).2.2) ι') (encR cf.r y).1 v ∧ Below w.heap.size w w' := by
  obtain ⟨_, _, H3⟩ := h x y hy
  rw [hb] at H3
  have nf : ∀ g, ¬ foot (mIn [] fun _ => none) g := fun g ⟨b, oo, c, h1, h2⟩ => by cases h2
  have H4 := H3 w (fun _ => none) vs hG hK (fun g hg => (nf g hg).elim) hv (fun b => trivial) (fun b b' g o c g' o' c' _ _ _ h1 _ => by cases h1)
  rw [he] at H4
  exact H4.2.mono fun e w' ⟨v, h1, ι', A⟩ => ⟨v, ι', h1, A.dr, A.fr.os, A.fr.tape, A.fr.output, A.fr.size, fun k hk => A.fr.block k hk (nf k)⟩
end
end Go.AM
end
