/- For every text the law MoveParses answers true: it is read as the document reads its bytes, and what is read has that text as its name. -/
import Derived.Test.YtmoeodcmfjnihabPax7
import Derived.Test.YtmoeodcmfjnihabPax4
import Derived.Test.YtmoeodcmfjnihabPax3
import Derived.Test.YtmoeodcmfjnihabPax5
import Derived.OpenShut
namespace Go.Proofs.Ytmoeodcmfjnihab.Pure
open Go.RowKit Go.Proofs.Ytmoeodcmfjnihab.Pa Go.Proofs.YtmoeodcmfjnihabW.PrintWords Go.Proofs.YtmoeodcmfjnihabW.PrintLast Go.Proofs.YtmoeodcmfjnihabW.PrintMore
set_option linter.unusedVariables false
set_option linter.unusedSimpArgs false

theorem all_i8 (P : Int → Bool) (h : (List.range 256).all (fun n => P ((n : Int) - 128)) = true) (a : Int) (ha : (Lit.int .i8 a).wf = true) : P a = true := by
  have hb := bounds_i8 ha
  have := List.all_eq_true.1 h (a + 128).toNat (List.mem_range.2 (by omega))
  rw [show (((a + 128).toNat : Nat) : Int) - 128 = a by omega] at this
  exact this
theorem all_to (m : Nat) (P : Int → Bool) (h : (List.range m).all (fun n => P (n : Int)) = true) (a : Int) (h0 : 0 ≤ a) (h1 : a < m) : P a = true := by
  have := List.all_eq_true.1 h a.toNat (List.mem_range.2 (by omega))
  rw [show ((a.toNat : Nat) : Int) = a by omega] at this
  exact this
theorem of_beq_some {o : Option Bool} (h : (o == some true) = true) : o = some true := by simpa using h

/-- The bytes of a text, as numbers. -/
def byt (s : ByteArray) : List Int := s.data.toList.map (fun b => ((b.toNat : Nat) : Int))
theorem byt_len (s : ByteArray) : (byt s).length = s.size := by unfold byt; simp
theorem byt_get (s : ByteArray) (i : Nat) (h : i < s.size) : rd (byt s) (i : Int) = bt s (i : Int) := by
  unfold rd byt bt
  have h' : (i : Int).toNat < s.size := by omega
  rw [dif_pos h']
  have e : (i : Int).toNat = i := by omega
  simp only [e]
  rw [List.getD_eq_getElem?_getD, List.getElem?_map, List.getElem?_eq_getElem (by simpa using h)]
  simp [ByteArray.getElem_eq_getElem_data]
theorem dec_lo (s : ByteArray) (i : Nat) (h : i < s.size) (ha : (s[i]'h).toNat < 128) : Utf8.decode s i = ((s[i]'h).toNat, 1) := decode_ascii s i h ha
theorem dec_hi (s : ByteArray) (i : Nat) (h : i < s.size) (ha : 128 ≤ (s[i]'h).toNat) : 128 ≤ (Utf8.decode s i).1 := by
  have e : (s.get! (i + 0)) = s[i]'h := by
    rw [Nat.add_zero]
    show s.data[i]! = s.data[i]
    exact getElem!_pos s.data i h
  unfold Utf8.decode
  dsimp only
  rw [if_neg (by rw [e]; omega)]
  repeat' split
  all_goals first
    | (show 128 ≤ Utf8.runeError; decide)
    | (rename_i hh; dsimp only; omega)
    | (rename_i hh; simp only [Bool.and_eq_true, decide_eq_true_eq] at hh; dsimp only; omega)
theorem dec_top (s : ByteArray) (i : Nat) : (Utf8.decode s i).1 ≤ 1114111 := by
  have h := Lib.rune_le s i
  omega
def Fail7 : Int × Int × Int × Bool × Int := (0, 0, 0, false, 70)
def sqv (a b : Int) : Int := if 49 ≤ a ∧ a ≤ 57 ∧ 97 ≤ b ∧ b ≤ 105 then 9 * (a - 49) + (b - 97) else -1
def p7 (l : List Int) : Int × Int × Int × Bool × Int :=
  if l.length = 4 ∨ l.length = 5 then
    if rd l 1 = 42 then
      if 1 ≤ piece_Parse.kind (rd l 0) ∧ piece_Parse.kind (rd l 0) ≤ 7 ∧ 0 ≤ sqv (rd l 2) (rd l 3) ∧ l.length = 4 then (0, sqv (rd l 2) (rd l 3), piece_Parse.kind (rd l 0), false, 0) else Fail7
    else if 0 ≤ sqv (rd l 0) (rd l 1) ∧ 0 ≤ sqv (rd l 2) (rd l 3) ∧ sqv (rd l 0) (rd l 1) ≠ sqv (rd l 2) (rd l 3) ∧ (l.length = 4 ∨ rd l 4 = 43) then (sqv (rd l 0) (rd l 1), sqv (rd l 2) (rd l 3), 0, decide (l.length = 5), 0) else Fail7
  else Fail7
theorem sqv_hi (a b : Int) (h : 128 ≤ a ∨ 128 ≤ b) : ¬ 0 ≤ sqv a b := by
  unfold sqv
  rw [if_neg (by omega)]
  omega
theorem kind_hi (a : Int) (h : 128 ≤ a ∨ a < 0) : piece_Parse.kind a = 0 := by
  unfold piece_Parse.kind
  rw [if_neg (by omega), if_neg (by omega), if_neg (by omega), if_neg (by omega), if_neg (by omega), if_neg (by omega), if_neg (by omega), if_neg (by omega)]
theorem p7_big (l : List Int) (h : ∃ x ∈ l, 128 ≤ x) : p7 l = Fail7 := by
  unfold p7
  by_cases hl : l.length = 4 ∨ l.length = 5
  · rw [if_pos hl]
    obtain ⟨x, hx, hx8⟩ := h
    have key : 128 ≤ rd l 0 ∨ 128 ≤ rd l 1 ∨ 128 ≤ rd l 2 ∨ 128 ≤ rd l 3 ∨ (l.length = 5 ∧ 128 ≤ rd l 4) := by
      match l, hl, hx with
      | [a, b, c, d], _, hx =>
        simp only [List.mem_cons, List.not_mem_nil, or_false] at hx
        show 128 ≤ a ∨ 128 ≤ b ∨ 128 ≤ c ∨ 128 ≤ d ∨ _
        rcases hx with rfl | rfl | rfl | rfl
        · exact .inl hx8
        · exact .inr (.inl hx8)
        · exact .inr (.inr (.inl hx8))
        · exact .inr (.inr (.inr (.inl hx8)))
      | [a, b, c, d, e], _, hx =>
        simp only [List.mem_cons, List.not_mem_nil, or_false] at hx
        show 128 ≤ a ∨ 128 ≤ b ∨ 128 ≤ c ∨ 128 ≤ d ∨ (_ ∧ 128 ≤ e)
        rcases hx with rfl | rfl | rfl | rfl | rfl
        · exact .inl hx8
        · exact .inr (.inl hx8)
        · exact .inr (.inr (.inl hx8))
        · exact .inr (.inr (.inr (.inl hx8)))
        · exact .inr (.inr (.inr (.inr ⟨rfl, hx8⟩)))
      | [], h, _ => simp at h
      | [_], h, _ => simp at h
      | [_, _], h, _ => simp at h
      | [_, _, _], h, _ => simp at h
      | _ :: _ :: _ :: _ :: _ :: _ :: _, h, _ => simp at h
    by_cases h42 : rd l 1 = 42
    · rw [if_pos h42, if_neg ?_]
      rintro ⟨k1, k2, k3, k4⟩
      rcases key with q | q | q | q | ⟨q, _⟩
      · rw [kind_hi _ (.inl q)] at k1; omega
      · omega
      · exact sqv_hi _ _ (.inl q) k3
      · exact sqv_hi _ _ (.inr q) k3
      · omega
    · rw [if_neg h42, if_neg ?_]
      rintro ⟨k1, k2, k3, k4⟩
      rcases key with q | q | q | q | ⟨q, q2⟩
      · exact sqv_hi _ _ (.inl q) k1
      · exact sqv_hi _ _ (.inr q) k1
      · exact sqv_hi _ _ (.inl q) k2
      · exact sqv_hi _ _ (.inr q) k2
      · omega
  · rw [if_neg hl]
theorem p7_six (l : List Int) (h : 6 ≤ l.length) : p7 l = Fail7 := by
  unfold p7
  rw [if_neg (by omega)]
theorem square_is (a b : Int) (ha : 0 ≤ a ∧ a ≤ 1114111) (hb : 0 ≤ b ∧ b ≤ 1114111) : move_square.f a b = some (sqv a b, decide (0 ≤ sqv a b)) := by
  unfold move_square.f
  have e1 : wrap64 (wrap32 (a - 49)) = a - 49 := by unfold wrap64 wrap32; omega
  have e2 : wrap64 (wrap32 (b - 97)) = b - 97 := by unfold wrap64 wrap32; omega
  rw [e1, e2]
  have e3 : set_Square.f (a - 49) (b - 97) = some (sqv a b) := by
    unfold set_Square.f sqv
    by_cases h : 49 ≤ a ∧ a ≤ 57 ∧ 97 ≤ b ∧ b ≤ 105
    · rw [if_pos h, if_neg (by omega), if_neg (by omega), if_neg (by omega), if_neg (by omega)]
      congr 1
      unfold wrap64
      omega
    · rw [if_neg h]
      repeat' split
      all_goals first | rfl | omega
  rw [e3]
  rfl
def sideOk (r : Int) : Bool := match piece_Parse.f r false with
  | some p => match piece_Side.f 9 p with
    | some d => (decide (d = 0 ∧ p ≠ 8) == decide (1 ≤ piece_Parse.kind r ∧ piece_Parse.kind r ≤ 7)) && (!decide (d = 0 ∧ p ≠ 8) || decide (wrap64 p = piece_Parse.kind r))
    | none => false
  | none => false
theorem parse_hi (r : Int) (h : 128 ≤ r) : piece_Parse.f r false = some 0 := by
  unfold piece_Parse.f
  rw [if_neg (by omega)]
  unfold piece_Parse.look
  rw [kind_hi r (.inl h), if_pos rfl]
theorem side_is (r : Int) (hr : 0 ≤ r) : ∃ p d, piece_Parse.f r false = some p ∧ piece_Side.f 9 p = some d ∧ ((d = 0 ∧ p ≠ 8) ↔ (1 ≤ piece_Parse.kind r ∧ piece_Parse.kind r ≤ 7)) ∧ ((d = 0 ∧ p ≠ 8) → wrap64 p = piece_Parse.kind r) := by
  by_cases h : r < 128
  · have hh := all_to 128 sideOk (by decide +kernel) r hr h
    unfold sideOk at hh
    cases hp : piece_Parse.f r false with
    | none => rw [hp] at hh; cases hh
    | some p =>
      rw [hp] at hh
      cases hd : piece_Side.f 9 p with
      | none => simp only [hd] at hh; cases hh
      | some d =>
        simp only [hd] at hh
        rw [Bool.and_eq_true, beq_iff_eq, decide_eq_decide] at hh
        refine ⟨p, d, rfl, hd, hh.1, fun q => ?_⟩
        have := hh.2
        simpa [q] using this
  · refine ⟨0, -1, parse_hi r (by omega), by decide +kernel, ?_, ?_⟩
    · rw [kind_hi r (.inl (by omega))]
      constructor <;> intro q <;> omega
    · intro q; omega
theorem g_is (l : List Int) (hl : ∀ i : Int, 0 ≤ rd l i ∧ rd l i ≤ 1114111) : move_Parse.g l = some (p7 l) := by
  unfold move_Parse.g p7
  by_cases h : l.length = 4 ∨ l.length = 5
  · rw [if_pos h, if_pos h]
    by_cases h42 : rd l 1 = 42
    · rw [if_pos h42, if_pos h42, square_is _ _ (hl 2) (hl 3)]
      obtain ⟨p, d, hp, hd, hiff, hw⟩ := side_is (rd l 0) (hl 0).1
      rw [hp]
      simp only [Option.bind_some]
      rw [hd]
      simp only [Option.bind_some, decide_eq_true_eq]
      by_cases hc : d = 0 ∧ p ≠ 8
      · have hk := hiff.1 hc
        have e : (d = 0 ∧ p ≠ 8 ∧ 0 ≤ sqv (rd l 2) (rd l 3) ∧ l.length = 4) ↔ (1 ≤ piece_Parse.kind (rd l 0) ∧ piece_Parse.kind (rd l 0) ≤ 7 ∧ 0 ≤ sqv (rd l 2) (rd l 3) ∧ l.length = 4) := ⟨fun q => ⟨hk.1, hk.2, q.2.2⟩, fun q => ⟨hc.1, hc.2, q.2.2⟩⟩
        rw [hw hc]
        by_cases hq : (d = 0 ∧ p ≠ 8 ∧ 0 ≤ sqv (rd l 2) (rd l 3) ∧ l.length = 4)
        · rw [if_pos hq, if_pos (e.1 hq)]
        · rw [if_neg hq, if_neg (fun x => hq (e.2 x))]; rfl
      · rw [if_neg (fun x => hc ⟨x.1, x.2.1⟩), if_neg (fun x => hc (hiff.2 ⟨x.1, x.2.1⟩))]; rfl
    · rw [if_neg h42, if_neg h42, square_is _ _ (hl 0) (hl 1), square_is _ _ (hl 2) (hl 3)]
      simp only [Option.bind_some, decide_eq_true_eq]
      by_cases hq : 0 ≤ sqv (rd l 0) (rd l 1) ∧ 0 ≤ sqv (rd l 2) (rd l 3) ∧ sqv (rd l 0) (rd l 1) ≠ sqv (rd l 2) (rd l 3) ∧ (l.length = 4 ∨ rd l 4 = 43)
      · rw [if_pos hq, if_pos hq]
        congr 5
        exact decide_eq_decide.2 (by omega)
      · rw [if_neg hq, if_neg hq]; rfl
  · rw [if_neg h, if_neg h]; rfl
theorem runes_lo (s : ByteArray) (hs : ∀ (j : Nat) (h : j < s.size), (s[j]'h).toNat < 128) : ∀ n i, move_Parse.runes s n i = ((byt s).drop i).take n
  | 0, i => by simp [move_Parse.runes]
  | n + 1, i => by
    by_cases hi : i < s.size
    · have e : move_Parse.runes s (n + 1) i = ((Utf8.decode s i).1 : Int) :: move_Parse.runes s n (i + (Utf8.decode s i).2) := by
        show (if i < s.size then _ else _) = _
        rw [if_pos hi]
      rw [e, dec_lo s i hi (hs i hi), runes_lo s hs n (i + 1)]
      have hb := byt_len s
      rw [List.drop_eq_getElem_cons (show i < (byt s).length by omega), List.take_succ_cons]
      congr 1
      unfold byt
      simp [ByteArray.getElem_eq_getElem_data]
    · have e : move_Parse.runes s (n + 1) i = [] := by
        show (if i < s.size then _ else _) = _
        rw [if_neg hi]
      rw [e, List.drop_of_length_le (by rw [byt_len]; omega), List.take_nil]
theorem runes_hi (s : ByteArray) (j : Nat) (hj : j < s.size) (hb : 128 ≤ (s[j]'hj).toNat) : ∀ n i, i ≤ j → (∃ x ∈ move_Parse.runes s n i, 128 ≤ x) ∨ (move_Parse.runes s n i).length = n
  | 0, i, _ => .inr (by simp [move_Parse.runes])
  | n + 1, i, hij => by
    have hi : i < s.size := by omega
    have e : move_Parse.runes s (n + 1) i = ((Utf8.decode s i).1 : Int) :: move_Parse.runes s n (i + (Utf8.decode s i).2) := by
      show (if i < s.size then _ else _) = _
      rw [if_pos hi]
    by_cases hlo : (s[i]'hi).toNat < 128
    · have hne : i ≠ j := by rintro rfl; omega
      rw [e, dec_lo s i hi hlo]
      rcases runes_hi s j hj hb n (i + 1) (by omega) with ⟨x, hx, hx8⟩ | h
      · exact .inl ⟨x, List.mem_cons_of_mem _ hx, hx8⟩
      · exact .inr (by simp [h])
    · have := dec_hi s i hi (by omega)
      exact .inl ⟨((Utf8.decode s i).1 : Int), by rw [e]; simp, by omega⟩
theorem runes_rd (s : ByteArray) : ∀ n i, ∀ x ∈ move_Parse.runes s n i, 0 ≤ x ∧ x ≤ 1114111
  | 0, i => by simp [move_Parse.runes]
  | n + 1, i => by
    intro x hx
    unfold move_Parse.runes at hx
    split at hx
    · rcases List.mem_cons.1 hx with rfl | hx
      · have := dec_top s i
        omega
      · exact runes_rd s n _ x hx
    · cases hx
theorem rd_of (l : List Int) (h : ∀ x ∈ l, 0 ≤ x ∧ x ≤ 1114111) (i : Int) : 0 ≤ rd l i ∧ rd l i ≤ 1114111 := by
  unfold rd
  rw [List.getD_eq_getElem?_getD]
  cases hq : l[i.toNat]? with
  | none => simp
  | some x => exact h x (List.mem_of_getElem? hq)
/-- The program's parse is that of the bytes. -/
theorem parse_is (s : ByteArray) : move_Parse.f s = some (p7 (byt s)) := by
  unfold move_Parse.f
  rw [g_is _ (rd_of _ (runes_rd s 6 0))]
  congr 1
  by_cases hs : ∀ (j : Nat) (h : j < s.size), (s[j]'h).toNat < 128
  · rw [runes_lo s hs 6 0, List.drop_zero]
    have hb := byt_len s
    by_cases h6 : s.size < 6
    · rw [List.take_of_length_le (show (byt s).length ≤ 6 by omega)]
    · rw [p7_six _ (by rw [List.length_take]; omega), p7_six _ (by omega)]
  · obtain ⟨j, hj, hb⟩ : ∃ (j : Nat) (h : j < s.size), 128 ≤ (s[j]'h).toNat := by
      false_or_by_contra
      rename_i hn
      exact hs (fun j h => by
        false_or_by_contra
        rename_i hh
        exact hn ⟨j, h, by omega⟩)
    have e1 : p7 (byt s) = Fail7 := p7_big _ ⟨(((s[j]'hj).toNat : Nat) : Int), by
      unfold byt
      rw [List.mem_map]
      exact ⟨s[j]'hj, by rw [ByteArray.getElem_eq_getElem_data]; simp, rfl⟩, by omega⟩
    rw [e1]
    rcases runes_hi s j hj hb 6 0 (by omega) with h | h
    · exact p7_big _ h
    · exact p7_six _ (by omega)

def ltrI (d : Int) : Int := if d = 1 then 80 else if d = 2 then 76 else if d = 3 then 78 else if d = 4 then 83 else if d = 5 then 71 else if d = 6 then 66 else if d = 7 then 82 else 0
def sqI (q : Int) : List Int := [49 + q / 9, 97 + q % 9]
def txI (f t d : Int) (p : Bool) : List Int := if d = 0 then sqI f ++ sqI t ++ (if p = true then [43] else []) else [ltrI d, 42] ++ sqI t
def toB (l : List Int) : List UInt8 := l.map (fun x => UInt8.ofNat x.toNat)
def txB (f t d : Int) (p : Bool) : ByteArray := ⟨(toB (txI f t d p)).toArray⟩
def sqB (q : Int) : ByteArray := ⟨(toB (sqI q)).toArray⟩
def ck (f t d : Int) (p : Bool) : Int := if t < 0 ∨ 80 < t then 1 else if d = 0 then (if f < 0 ∨ 80 < f then 1 else if f = t then 70 else 0) else if 1 ≤ d ∧ d ≤ 7 ∧ f = 0 ∧ p = false then 0 else 70
theorem byt_toB (l : List Int) (h : ∀ x ∈ l, 0 ≤ x ∧ x < 256) : byt ⟨(toB l).toArray⟩ = l := by
  unfold byt toB
  simp only [List.toList_toArray, List.map_map]
  rw [List.map_congr_left (g := id) (fun x hx => ?_), List.map_id]
  have := h x hx
  simp only [Function.comp, id, UInt8.toNat_ofNat']
  omega
theorem toB_byt (s : ByteArray) : toB (byt s) = s.data.toList := by
  unfold byt toB
  rw [List.map_map, List.map_congr_left (g := id) (fun x hx => ?_), List.map_id]
  simp
theorem txI_small (f t d : Int) (p : Bool) (h : ck f t d p = 0) : ∀ x ∈ txI f t d p, 0 ≤ x ∧ x < 128 := by
  unfold ck at h
  intro x hx
  split at h
  · cases h
  · unfold txI sqI at hx
    split at h
    · rename_i hd
      rw [if_pos hd] at hx
      have hf : 0 ≤ f ∧ f ≤ 80 := by
        split at h
        · cases h
        · omega
      cases p
      · simp only [List.cons_append, List.nil_append, List.mem_cons, List.not_mem_nil, or_false, Bool.false_eq_true, if_false] at hx
        omega
      · simp only [List.cons_append, List.nil_append, List.mem_cons, List.not_mem_nil, or_false, if_true] at hx
        omega
    · rename_i hd
      rw [if_neg hd] at hx
      simp only [List.cons_append, List.nil_append, List.mem_cons, List.not_mem_nil, or_false] at hx
      have hl : 0 ≤ ltrI d ∧ ltrI d < 128 := by unfold ltrI; repeat' split
                                                all_goals omega
      omega
theorem byt_tx (f t d : Int) (p : Bool) (h : ck f t d p = 0) : byt (txB f t d p) = txI f t d p := byt_toB _ (fun x hx => by have := txI_small f t d p h x hx; omega)
theorem check_is (f t d : Int) (p : Bool) : move_Check.f 20 f t d p = some (ck f t d p) := by
  unfold move_Check.f ck
  by_cases h1 : t < 0
  · rw [if_pos h1, if_pos (.inl h1)]; rfl
  · rw [if_neg h1]
    by_cases h2 : 80 < t
    · rw [show decide (t ≥ 81) = true from decide_eq_true (by omega), if_pos (.inr h2)]; rfl
    · rw [show decide (t ≥ 81) = false from decide_eq_false (by omega), if_neg (by omega)]
      simp only [move_Check.j0]
      rw [if_neg (by decide)]
      by_cases h3 : d = 0
      · rw [if_pos h3, if_pos h3]
        by_cases h4 : f < 0
        · rw [if_pos h4, if_pos (.inl h4)]; rfl
        · rw [if_neg h4]
          by_cases h5 : 80 < f
          · rw [show decide (f ≥ 81) = true from decide_eq_true (by omega), if_pos (.inr h5)]; rfl
          · rw [show decide (f ≥ 81) = false from decide_eq_false (by omega), if_neg (by omega)]
            show (if false = true then some 1 else (if f = t then some 70 else some 0)) = _
            rw [if_neg (by decide)]
            split <;> rfl
      · rw [if_neg h3, if_neg h3]
        by_cases hd : 1 ≤ d ∧ d ≤ 7 ∧ f = 0 ∧ p = false
        · rw [if_pos hd, if_neg (by omega), if_neg (by omega), if_pos hd.2.2.1, hd.2.2.2]; rfl
        · rw [if_neg hd]
          by_cases q1 : d < 0
          · rw [if_pos q1]
          · rw [if_neg q1]
            by_cases q2 : d ≥ 8
            · rw [if_pos q2]
            · rw [if_neg q2]
              by_cases q3 : f = 0
              · rw [if_pos q3]
                cases p
                · exact absurd ⟨by omega, by omega, q3, rfl⟩ hd
                · rfl
              · rw [if_neg q3]
theorem rcheck_is (f t d : Int) (p : Bool) : kakugyoref07_Check.f 20 f t d p = some (ck f t d p) := by
  unfold kakugyoref07_Check.f ck
  by_cases h1 : t < 0
  · rw [if_pos h1, if_pos (.inl h1)]; rfl
  · rw [if_neg h1]
    by_cases h2 : 80 < t
    · rw [show decide (t > 80) = true from decide_eq_true (by omega), if_pos (.inr h2)]; rfl
    · rw [show decide (t > 80) = false from decide_eq_false (by omega), if_neg (by omega)]
      simp only [kakugyoref07_Check.j0]
      rw [if_neg (by decide)]
      by_cases h3 : d = 0
      · rw [if_pos h3, if_pos h3]
        by_cases h4 : f < 0
        · rw [if_pos h4, if_pos (.inl h4)]; rfl
        · rw [if_neg h4]
          by_cases h5 : 80 < f
          · rw [show decide (f > 80) = true from decide_eq_true (by omega), if_pos (.inr h5)]; rfl
          · rw [show decide (f > 80) = false from decide_eq_false (by omega), if_neg (by omega)]
            show (if false = true then some 1 else (if f = t then some 70 else some 0)) = _
            rw [if_neg (by decide)]
            split <;> rfl
      · rw [if_neg h3, if_neg h3]
        by_cases hd : 1 ≤ d ∧ d ≤ 7 ∧ f = 0 ∧ p = false
        · rw [if_pos hd, if_neg (by omega), if_neg (by omega), if_pos hd.2.2.1, hd.2.2.2]; rfl
        · rw [if_neg hd]
          by_cases q1 : d < 1
          · rw [if_pos q1]
          · rw [if_neg q1]
            by_cases q2 : d > 7
            · rw [if_pos q2]
            · rw [if_neg q2]
              by_cases q3 : f = 0
              · rw [if_pos q3]
                cases p
                · exact absurd ⟨by omega, by omega, q3, rfl⟩ hd
                · rfl
              · rw [if_neg q3]
theorem names_is : kakugyolaw07_names.f 20 = some true := by decide +kernel
def sqOk (q : Int) : Bool := decide (move_Square.f 20 q = some (sqB q)) && decide (kakugyoref07_Square.f q = some (sqB q))
theorem sq_is (q : Int) (h0 : 0 ≤ q) (h1 : q ≤ 80) : move_Square.f 20 q = some (sqB q) ∧ kakugyoref07_Square.f q = some (sqB q) := by
  have hh := all_to 81 sqOk (by decide +kernel) q h0 (by omega)
  unfold sqOk at hh
  rw [Bool.and_eq_true] at hh
  exact ⟨of_decide_eq_true hh.1, of_decide_eq_true hh.2⟩
theorem sq_none (q : Int) (h : q < 0 ∨ 80 < q) : move_Square.f 20 q = some ⟨#[]⟩ := by
  unfold move_Square.f
  by_cases h1 : q < 0
  · rw [if_pos h1]; rfl
  · rw [if_neg h1, show decide (q ≥ 81) = true from decide_eq_true (by omega)]; rfl
def dropOk (d : Int) : Bool := d == 0 || (decide (piece_Of.f 0 d = some d) && decide (piece_Name.f 20 d = some ⟨#[UInt8.ofNat (ltrI d).toNat]⟩) && decide ((⟨#[80, 76, 78, 83, 71, 66, 82]⟩ : ByteArray).extract (wrap64 (d - 1)).toNat d.toNat = ⟨#[UInt8.ofNat (ltrI d).toNat]⟩))
theorem drop_is (d : Int) (h0 : 1 ≤ d) (h1 : d ≤ 7) : piece_Of.f 0 d = some d ∧ piece_Name.f 20 d = some ⟨#[UInt8.ofNat (ltrI d).toNat]⟩ ∧ (⟨#[80, 76, 78, 83, 71, 66, 82]⟩ : ByteArray).extract (wrap64 (d - 1)).toNat d.toNat = ⟨#[UInt8.ofNat (ltrI d).toNat]⟩ := by
  have hh := all_to 8 dropOk (by decide +kernel) d (by omega) (by omega)
  unfold dropOk at hh
  rw [Bool.or_eq_true, beq_iff_eq, Bool.and_eq_true, Bool.and_eq_true] at hh
  rcases hh with hh | ⟨⟨a, b⟩, c⟩
  · omega
  · exact ⟨of_decide_eq_true a, of_decide_eq_true b, of_decide_eq_true c⟩
theorem toB_app (a b : List Int) : (⟨(toB a).toArray⟩ : ByteArray) ++ ⟨(toB b).toArray⟩ = ⟨(toB (a ++ b)).toArray⟩ := by
  apply ByteArray.ext
  rw [ByteArray.data_append]
  simp [toB]
theorem toB_size (l : List Int) : (⟨(toB l).toArray⟩ : ByteArray).size = l.length := by
  show (toB l).toArray.size = _
  simp [toB]
theorem text_is (f t d : Int) (p : Bool) : move_Text.f 20 f t d p = some (if ck f t d p = 0 then txB f t d p else ⟨#[]⟩) := by
  unfold move_Text.f
  rw [check_is, Option.bind_some]
  by_cases h : ck f t d p = 0
  · rw [if_pos h, if_pos h]
    have h' := h
    unfold ck at h'
    have ht : 0 ≤ t ∧ t ≤ 80 := by
      by_cases q : t < 0 ∨ 80 < t
      · rw [if_pos q] at h'; cases h'
      · omega
    rw [if_neg (by omega)] at h'
    by_cases hd : d = 0
    · rw [if_pos hd] at h' ⊢
      have hf : 0 ≤ f ∧ f ≤ 80 := by
        by_cases q : f < 0 ∨ 80 < f
        · rw [if_pos q] at h'; cases h'
        · omega
      rw [(sq_is f hf.1 hf.2).1, (sq_is t ht.1 ht.2).1]
      simp only [Option.bind_some]
      unfold txB txI
      rw [if_pos hd]
      cases p
      · rw [if_neg (by decide), if_pos (by unfold sqB; rw [toB_size, toB_size]; exact (by decide : 2 + 2 ≤ 9223372036854775807)), if_neg (by decide), List.append_nil]
        unfold sqB
        rw [toB_app]
      · rw [if_pos rfl, if_pos rfl, if_pos (by unfold sqB; rw [toB_size, toB_size]; exact (by decide : 2 + 2 ≤ 9223372036854775807))]
        have e : sqB f ++ sqB t = ⟨(toB (sqI f ++ sqI t)).toArray⟩ := by unfold sqB; rw [toB_app]
        rw [e, if_pos (by rw [toB_size]; exact (by decide : 4 + 1 ≤ 9223372036854775807))]
        exact congrArg some (toB_app (sqI f ++ sqI t) [43])
    · rw [if_neg hd] at h' ⊢
      have hk : 1 ≤ d ∧ d ≤ 7 ∧ f = 0 ∧ p = false := by
        by_cases q : 1 ≤ d ∧ d ≤ 7 ∧ f = 0 ∧ p = false
        · exact q
        · rw [if_neg q] at h'; cases h'
      obtain ⟨d1, d2, d3⟩ := drop_is d hk.1 hk.2.1
      rw [d1, Option.bind_some, d2, Option.bind_some, (sq_is t ht.1 ht.2).1, Option.bind_some]
      unfold txB txI
      rw [if_neg hd, if_pos (by show 1 + 1 ≤ _; decide)]
      have e : (⟨#[UInt8.ofNat (ltrI d).toNat]⟩ : ByteArray) ++ (⟨#[42]⟩ : ByteArray) = ⟨(toB [ltrI d, 42]).toArray⟩ := rfl
      rw [e]
      unfold sqB
      rw [toB_size, toB_size, if_pos (by exact (by decide : 2 + 2 ≤ 9223372036854775807)), toB_app]
  · rw [if_neg h, if_neg h]
theorem rtext_is (f t d : Int) (p : Bool) : kakugyoref07_Text.f 20 f t d p = some (if ck f t d p = 0 then txB f t d p else ⟨#[]⟩) := by
  unfold kakugyoref07_Text.f
  rw [rcheck_is, Option.bind_some]
  by_cases h : ck f t d p = 0
  · rw [if_pos h, if_pos h]
    have h' := h
    unfold ck at h'
    have ht : 0 ≤ t ∧ t ≤ 80 := by
      by_cases q : t < 0 ∨ 80 < t
      · rw [if_pos q] at h'; cases h'
      · omega
    rw [if_neg (by omega)] at h'
    by_cases hd : d = 0
    · rw [if_pos hd] at h' ⊢
      have hf : 0 ≤ f ∧ f ≤ 80 := by
        by_cases q : f < 0 ∨ 80 < f
        · rw [if_pos q] at h'; cases h'
        · omega
      rw [(sq_is f hf.1 hf.2).2, (sq_is t ht.1 ht.2).2]
      simp only [Option.bind_some]
      unfold txB txI
      rw [if_pos hd, if_pos (by unfold sqB; rw [toB_size, toB_size]; exact (by decide : 2 + 2 ≤ 9223372036854775807))]
      have e : sqB f ++ sqB t = ⟨(toB (sqI f ++ sqI t)).toArray⟩ := by unfold sqB; rw [toB_app]
      rw [e]
      cases p
      · rw [if_neg (by decide), if_neg (by decide), List.append_nil]
      · rw [if_pos rfl, if_pos rfl, if_pos (by rw [toB_size]; exact (by decide : 4 + 1 ≤ 9223372036854775807))]
        exact congrArg some (toB_app (sqI f ++ sqI t) [43])
    · rw [if_neg hd] at h' ⊢
      have hk : 1 ≤ d ∧ d ≤ 7 ∧ f = 0 ∧ p = false := by
        by_cases q : 1 ≤ d ∧ d ≤ 7 ∧ f = 0 ∧ p = false
        · exact q
        · rw [if_neg q] at h'; cases h'
      obtain ⟨d1, d2, d3⟩ := drop_is d hk.1 hk.2.1
      have w1 : wrap64 (d - 1) = d - 1 := by unfold wrap64; omega
      rw [d3, if_pos (by rw [w1]; omega), if_pos (by rw [w1]; omega), if_pos hk.2.1, (sq_is t ht.1 ht.2).2, Option.bind_some]
      unfold txB txI
      rw [if_neg hd, if_pos (by show 1 + 1 ≤ _; decide)]
      have e : (⟨#[UInt8.ofNat (ltrI d).toNat]⟩ : ByteArray) ++ (⟨#[42]⟩ : ByteArray) = ⟨(toB [ltrI d, 42]).toArray⟩ := rfl
      rw [e]
      unfold sqB
      rw [toB_size, toB_size, if_pos (by exact (by decide : 2 + 2 ≤ 9223372036854775807)), toB_app]
  · rw [if_neg h, if_neg h]
theorem sqv_is (q : Int) (h0 : 0 ≤ q) (h1 : q ≤ 80) : sqv (49 + q / 9) (97 + q % 9) = q := by
  unfold sqv
  rw [if_pos (by omega)]
  omega
theorem kind_ltr (d : Int) (h0 : 1 ≤ d) (h1 : d ≤ 7) : piece_Parse.kind (ltrI d) = d := by
  obtain rfl | rfl | rfl | rfl | rfl | rfl | rfl : d = 1 ∨ d = 2 ∨ d = 3 ∨ d = 4 ∨ d = 5 ∨ d = 6 ∨ d = 7 := by omega
  all_goals rfl
theorem ltr_kind (a : Int) (h : 1 ≤ piece_Parse.kind a ∧ piece_Parse.kind a ≤ 7) : ltrI (piece_Parse.kind a) = a := by
  unfold piece_Parse.kind at h ⊢
  repeat' split
  all_goals (first | (subst_vars; rfl) | (exfalso; simp_all))
theorem p7_mv (l : List Int) (f t : Int) (hl : l.length = 4 ∨ l.length = 5) (h0 : rd l 0 = 49 + f / 9) (h1 : rd l 1 = 97 + f % 9) (h2 : rd l 2 = 49 + t / 9) (h3 : rd l 3 = 97 + t % 9) (hf : 0 ≤ f ∧ f ≤ 80) (ht : 0 ≤ t ∧ t ≤ 80) (hne : f ≠ t) : p7 l = if l.length = 4 ∨ rd l 4 = 43 then (f, t, 0, decide (l.length = 5), 0) else Fail7 := by
  unfold p7
  rw [if_pos hl, h0, h1, h2, h3, if_neg (by omega), sqv_is f hf.1 hf.2, sqv_is t ht.1 ht.2]
  by_cases h4 : l.length = 4 ∨ rd l 4 = 43
  · rw [if_pos h4, if_pos ⟨hf.1, ht.1, hne, h4⟩]
  · rw [if_neg h4, if_neg (fun q => h4 q.2.2.2)]
theorem p7_dr (l : List Int) (t d : Int) (hl : l.length = 4 ∨ l.length = 5) (h0 : rd l 0 = ltrI d) (h1 : rd l 1 = 42) (h2 : rd l 2 = 49 + t / 9) (h3 : rd l 3 = 97 + t % 9) (hd : 1 ≤ d ∧ d ≤ 7) (ht : 0 ≤ t ∧ t ≤ 80) : p7 l = if l.length = 4 then (0, t, d, false, 0) else Fail7 := by
  unfold p7
  rw [if_pos hl, h0, h1, h2, h3, if_pos rfl, sqv_is t ht.1 ht.2, kind_ltr d hd.1 hd.2]
  by_cases h4 : l.length = 4
  · rw [if_pos h4, if_pos ⟨hd.1, hd.2, ht.1, h4⟩]
  · rw [if_neg h4, if_neg (fun q => h4 q.2.2.2)]
theorem ck_ok (f t d : Int) (p : Bool) (h : ck f t d p = 0) : (0 ≤ t ∧ t ≤ 80) ∧ ((d = 0 ∧ (0 ≤ f ∧ f ≤ 80) ∧ f ≠ t) ∨ (d ≠ 0 ∧ (1 ≤ d ∧ d ≤ 7) ∧ f = 0 ∧ p = false)) := by
  unfold ck at h
  by_cases q : t < 0 ∨ 80 < t
  · rw [if_pos q] at h; cases h
  · rw [if_neg q] at h
    refine ⟨by omega, ?_⟩
    by_cases hd : d = 0
    · rw [if_pos hd] at h
      by_cases q : f < 0 ∨ 80 < f
      · rw [if_pos q] at h; cases h
      · rw [if_neg q] at h
        by_cases q2 : f = t
        · rw [if_pos q2] at h; cases h
        · exact .inl ⟨hd, by omega, q2⟩
    · rw [if_neg hd] at h
      by_cases q : 1 ≤ d ∧ d ≤ 7 ∧ f = 0 ∧ p = false
      · exact .inr ⟨hd, ⟨q.1, q.2.1⟩, q.2.2.1, q.2.2.2⟩
      · rw [if_neg q] at h; cases h
theorem p7_tx (f t d : Int) (p : Bool) (h : ck f t d p = 0) : p7 (txI f t d p) = (f, t, d, p, 0) := by
  obtain ⟨ht, ⟨rfl, hf, hne⟩ | ⟨hd, hk, rfl, rfl⟩⟩ := ck_ok f t d p h
  · unfold txI sqI
    rw [if_pos rfl]
    cases p
    · exact (p7_mv [49 + f / 9, 97 + f % 9, 49 + t / 9, 97 + t % 9] f t (.inl rfl) rfl rfl rfl rfl hf ht hne).trans (if_pos (.inl rfl))
    · exact (p7_mv [49 + f / 9, 97 + f % 9, 49 + t / 9, 97 + t % 9, 43] f t (.inr rfl) rfl rfl rfl rfl hf ht hne).trans (if_pos (.inr rfl))
  · unfold txI sqI
    rw [if_neg hd]
    exact (p7_dr [ltrI d, 42, 49 + t / 9, 97 + t % 9] t d (.inl rfl) rfl rfl rfl rfl hk ht).trans (if_pos rfl)

def findOk (b : Int) : Bool := decide (kakugyoref07_find.f 19 ⟨#[80, 76, 78, 83, 71, 66, 82]⟩ b = some (if 1 ≤ piece_Parse.kind b ∧ piece_Parse.kind b ≤ 7 then piece_Parse.kind b - 1 else -1)) && decide (kakugyoref07_find.f 19 ⟨#[49, 50, 51, 52, 53, 54, 55, 56, 57]⟩ b = some (if 49 ≤ b ∧ b ≤ 57 then b - 49 else -1)) && decide (kakugyoref07_find.f 19 ⟨#[97, 98, 99, 100, 101, 102, 103, 104, 105]⟩ b = some (if 97 ≤ b ∧ b ≤ 105 then b - 97 else -1))
theorem find_is (b : Int) (h0 : 0 ≤ b) (h1 : b ≤ 255) : kakugyoref07_find.f 19 ⟨#[80, 76, 78, 83, 71, 66, 82]⟩ b = some (if 1 ≤ piece_Parse.kind b ∧ piece_Parse.kind b ≤ 7 then piece_Parse.kind b - 1 else -1) ∧ kakugyoref07_find.f 19 ⟨#[49, 50, 51, 52, 53, 54, 55, 56, 57]⟩ b = some (if 49 ≤ b ∧ b ≤ 57 then b - 49 else -1) ∧ kakugyoref07_find.f 19 ⟨#[97, 98, 99, 100, 101, 102, 103, 104, 105]⟩ b = some (if 97 ≤ b ∧ b ≤ 105 then b - 97 else -1) := by
  have hh := all_to 256 findOk (by decide +kernel) b h0 (by omega)
  unfold findOk at hh
  rw [Bool.and_eq_true, Bool.and_eq_true] at hh
  exact ⟨of_decide_eq_true hh.1.1, of_decide_eq_true hh.1.2, of_decide_eq_true hh.2⟩
theorem bt_cut (s : ByteArray) (a b i : Nat) (h : a + i < b) (hb : b ≤ s.size) : bt (s.extract a b) (i : Int) = bt s ((a + i : Nat) : Int) := by
  unfold bt
  have h1 : ((i : Int)).toNat < (s.extract a b).size := by rw [ByteArray.size_extract]; omega
  have h2 : (((a + i : Nat) : Int)).toNat < s.size := by omega
  rw [dif_pos h1, dif_pos h2]
  congr 2
  rw [ByteArray.getElem_extract]
  rfl
theorem rsquare_is (s : ByteArray) (h : 2 ≤ s.size) : kakugyoref07_square.f 19 s = some (sqv (bt s 0) (bt s 1)) := by
  unfold kakugyoref07_square.f
  have b0 := bt_range s 0
  have b1 := bt_range s 1
  rw [if_pos (by omega), (find_is _ b0.1 b0.2).2.1, Option.bind_some, if_pos (by omega), (find_is _ b1.1 b1.2).2.2, Option.bind_some]
  unfold sqv
  generalize bt s 0 = x at *
  generalize bt s 1 = y at *
  by_cases hx : 49 ≤ x ∧ x ≤ 57
  · rw [if_pos hx, if_neg (by omega)]
    by_cases hy : 97 ≤ y ∧ y ≤ 105
    · rw [if_pos hy, if_neg (by omega), if_pos ⟨hx.1, hx.2, hy.1, hy.2⟩]
      congr 1
      unfold wrap64
      omega
    · rw [if_neg hy, if_pos (by omega), if_neg (by omega)]
  · rw [if_neg hx, if_pos (by omega), if_neg (by omega)]
theorem rparse_big (s : ByteArray) (h : ¬ (s.size = 4 ∨ s.size = 5)) : kakugyoref07_Parse.f 20 s = some Fail7 := by
  unfold kakugyoref07_Parse.f
  rw [if_neg (by omega), show ((s.size : Int) != 5) = true by simp; omega]
  rfl
theorem rparse_j0 (s : ByteArray) (h : s.size = 4 ∨ s.size = 5) : kakugyoref07_Parse.f 20 s = kakugyoref07_Parse.j0 20 s false := by
  unfold kakugyoref07_Parse.f
  by_cases h4 : s.size = 4
  · rw [if_pos (by omega)]
  · rw [if_neg (by omega), show ((s.size : Int) != 5) = false by simp; omega]
theorem rparse_is (s : ByteArray) : kakugyoref07_Parse.f 20 s = some (p7 (byt s)) := by
  have hl := byt_len s
  by_cases h : s.size = 4 ∨ s.size = 5
  · rw [rparse_j0 s h]
    have g0 := byt_get s 0 (by omega)
    have g1 := byt_get s 1 (by omega)
    have g2 := byt_get s 2 (by omega)
    have g3 := byt_get s 3 (by omega)
    have r0 := bt_range s 0
    have q01 : kakugyoref07_square.f 19 (s.extract 0 2) = some (sqv (bt s 0) (bt s 1)) := by
      rw [rsquare_is _ (by rw [ByteArray.size_extract]; omega)]
      rw [show bt (s.extract 0 2) 0 = bt s 0 from bt_cut s 0 2 0 (by omega) (by omega), show bt (s.extract 0 2) 1 = bt s 1 from bt_cut s 0 2 1 (by omega) (by omega)]
    have q23 : kakugyoref07_square.f 19 (s.extract 2 4) = some (sqv (bt s 2) (bt s 3)) := by
      rw [rsquare_is _ (by rw [ByteArray.size_extract]; omega)]
      rw [show bt (s.extract 2 4) 0 = bt s 2 from bt_cut s 2 4 0 (by omega) (by omega), show bt (s.extract 2 4) 1 = bt s 3 from bt_cut s 2 4 1 (by omega) (by omega)]
    have f0 := (find_is _ r0.1 r0.2).1
    unfold p7
    rw [hl, if_pos h]
    have e0 : rd (byt s) 0 = bt s 0 := g0
    have e1 : rd (byt s) 1 = bt s 1 := g1
    have e2 : rd (byt s) 2 = bt s 2 := g2
    have e3 : rd (byt s) 3 = bt s 3 := g3
    rw [e0, e1, e2, e3]
    simp only [kakugyoref07_Parse.j0]
    rw [if_neg (by decide), if_pos (by omega)]
    by_cases h42 : bt s 1 = 42
    · rw [if_pos h42, if_pos h42, if_pos (by omega), f0, Option.bind_some, if_pos (by decide), if_pos (by omega), q23, Option.bind_some]
      generalize sqv (bt s 2) (bt s 3) = v at *
      generalize piece_Parse.kind (bt s 0) = kd at *
      by_cases h4 : s.size = 4
      · rw [if_pos (by omega)]
        by_cases hk : 1 ≤ kd ∧ kd ≤ 7
        · rw [if_pos hk, if_neg (by omega)]
          by_cases hv : v < 0
          · rw [if_pos hv, if_neg (by omega)]; rfl
          · rw [if_neg hv, if_pos ⟨hk.1, hk.2, by omega, h4⟩, show wrap64 (kd - 1 + 1) = kd by unfold wrap64; omega]
        · rw [if_neg hk, if_pos (by omega), if_neg (by omega)]; rfl
      · rw [if_neg (by omega), if_neg (by omega)]; rfl
    · rw [if_neg h42, if_neg h42, if_pos (by decide), if_pos (by omega), q01, Option.bind_some, if_pos (by decide), if_pos (by omega), q23, Option.bind_some]
      generalize sqv (bt s 0) (bt s 1) = u at *
      generalize sqv (bt s 2) (bt s 3) = v at *
      by_cases hu : u < 0
      · rw [if_pos hu, if_neg (by omega)]; rfl
      · rw [if_neg hu]
        by_cases hv : v < 0
        · rw [if_pos hv, if_neg (by omega)]; rfl
        · rw [if_neg hv]
          by_cases huv : u = v
          · rw [if_pos huv, if_neg (by omega)]; rfl
          · rw [if_neg huv]
            by_cases h5 : s.size = 5
            · have g4 : rd (byt s) 4 = bt s 4 := byt_get s 4 (by omega)
              rw [if_pos (by omega), if_pos (by omega), g4]
              by_cases h43 : bt s 4 = 43
              · rw [if_pos h43, if_pos ⟨by omega, by omega, huv, .inr h43⟩, h5]; rfl
              · rw [if_neg h43, if_neg (by omega)]; rfl
            · rw [if_neg (by omega), if_pos ⟨by omega, by omega, huv, .inl (by omega)⟩]
              rw [show ((s.size : Int) == 5) = false by simp; omega, show decide (s.size = 5) = false from decide_eq_false h5]
  · rw [rparse_big s h]
    unfold p7
    rw [hl, if_neg h]
theorem p7_tx' (l : List Int) (f t d : Int) (p : Bool) (h : p7 l = (f, t, d, p, 0)) : ck f t d p = 0 ∧ txI f t d p = l := by
  unfold p7 at h
  by_cases hl : l.length = 4 ∨ l.length = 5
  · rw [if_pos hl] at h
    by_cases h42 : rd l 1 = 42
    · rw [if_pos h42] at h
      by_cases hc : 1 ≤ piece_Parse.kind (rd l 0) ∧ piece_Parse.kind (rd l 0) ≤ 7 ∧ 0 ≤ sqv (rd l 2) (rd l 3) ∧ l.length = 4
      · rw [if_pos hc] at h
        simp only [Prod.mk.injEq] at h
        obtain ⟨rfl, rfl, rfl, rfl, -⟩ := h
        match l, hc, h42 with
        | [a, b, x, y], hc, h42 =>
          have hc' : 1 ≤ piece_Parse.kind a ∧ piece_Parse.kind a ≤ 7 ∧ 0 ≤ sqv x y ∧ _ := hc
          have hb : b = 42 := h42
          subst hb
          show ck 0 (sqv x y) (piece_Parse.kind a) false = 0 ∧ txI 0 (sqv x y) (piece_Parse.kind a) false = _
          have hlk := ltr_kind a ⟨hc'.1, hc'.2.1⟩
          have hs := hc'.2.2.1
          have hxy : 49 ≤ x ∧ x ≤ 57 ∧ 97 ≤ y ∧ y ≤ 105 := by
            false_or_by_contra
            rename_i hn
            unfold sqv at hs
            rw [if_neg hn] at hs
            omega
          have hv : sqv x y = 9 * (x - 49) + (y - 97) := by unfold sqv; rw [if_pos hxy]
          rw [hv]
          constructor
          · unfold ck
            rw [if_neg (by omega), if_neg (by omega), if_pos ⟨hc'.1, hc'.2.1, rfl, rfl⟩]
          · unfold txI sqI
            rw [if_neg (by omega), hlk]
            show [a, 42, _, _] = _
            rw [show 49 + (9 * (x - 49) + (y - 97)) / 9 = x by omega, show 97 + (9 * (x - 49) + (y - 97)) % 9 = y by omega]
        | [], hc, _ => exact absurd hc.2.2.2 (by simp)
        | [_], hc, _ => exact absurd hc.2.2.2 (by simp)
        | [_, _], hc, _ => exact absurd hc.2.2.2 (by simp)
        | [_, _, _], hc, _ => exact absurd hc.2.2.2 (by simp)
        | _ :: _ :: _ :: _ :: _ :: _, hc, _ => exact absurd hc.2.2.2 (by simp)
      · rw [if_neg hc] at h
        simp [Fail7] at h
    · rw [if_neg h42] at h
      by_cases hc : 0 ≤ sqv (rd l 0) (rd l 1) ∧ 0 ≤ sqv (rd l 2) (rd l 3) ∧ sqv (rd l 0) (rd l 1) ≠ sqv (rd l 2) (rd l 3) ∧ (l.length = 4 ∨ rd l 4 = 43)
      · rw [if_pos hc] at h
        simp only [Prod.mk.injEq] at h
        obtain ⟨rfl, rfl, rfl, rfl, -⟩ := h
        obtain ⟨h1, h2, h3, h4⟩ := hc
        have hx1 : ∀ x y, 0 ≤ sqv x y → 49 ≤ x ∧ x ≤ 57 ∧ 97 ≤ y ∧ y ≤ 105 ∧ sqv x y = 9 * (x - 49) + (y - 97) := by
          intro x y hs
          have hxy : 49 ≤ x ∧ x ≤ 57 ∧ 97 ≤ y ∧ y ≤ 105 := by
            false_or_by_contra
            rename_i hn
            unfold sqv at hs
            rw [if_neg hn] at hs
            omega
          exact ⟨hxy.1, hxy.2.1, hxy.2.2.1, hxy.2.2.2, by unfold sqv; rw [if_pos hxy]⟩
        obtain ⟨a1, a2, a3, a4, a5⟩ := hx1 _ _ h1
        obtain ⟨b1, b2, b3, b4, b5⟩ := hx1 _ _ h2
        rw [a5, b5] at h3 ⊢
        have hck : ∀ q, ck (9 * (rd l 0 - 49) + (rd l 1 - 97)) (9 * (rd l 2 - 49) + (rd l 3 - 97)) 0 q = 0 := by
          intro q
          unfold ck
          rw [if_neg (by omega), if_pos rfl, if_neg (by omega), if_neg h3]
        refine ⟨hck _, ?_⟩
        unfold txI sqI
        rw [if_pos rfl]
        rw [show 49 + (9 * (rd l 0 - 49) + (rd l 1 - 97)) / 9 = rd l 0 by omega, show 97 + (9 * (rd l 0 - 49) + (rd l 1 - 97)) % 9 = rd l 1 by omega, show 49 + (9 * (rd l 2 - 49) + (rd l 3 - 97)) / 9 = rd l 2 by omega, show 97 + (9 * (rd l 2 - 49) + (rd l 3 - 97)) % 9 = rd l 3 by omega]
        match l, hl, h4 with
        | [a, b, x, y], _, _ => rfl
        | [a, b, x, y, z], _, h4 =>
          have hz : z = 43 := by
            rcases h4 with h4 | h4
            · simp at h4
            · exact h4
          subst hz
          rfl
        | [], h, _ => simp at h
        | [_], h, _ => simp at h
        | [_, _], h, _ => simp at h
        | [_, _, _], h, _ => simp at h
        | _ :: _ :: _ :: _ :: _ :: _ :: _, h, _ => simp at h
      · rw [if_neg hc] at h
        simp [Fail7] at h
  · rw [if_neg hl] at h
    simp [Fail7] at h

theorem MoveParses : kakugyolaw07_MoveParses.Pure := by
  intro s _
  refine ⟨20, ?_⟩
  unfold kakugyolaw07_MoveParses.f
  rw [names_is, Option.bind_some, if_pos rfl, parse_is, Option.bind_some, rparse_is, Option.bind_some, if_pos rfl, if_neg (by simp)]
  obtain ⟨⟨f, t, d, p, e⟩, he⟩ : ∃ x, x = p7 (byt s) := ⟨_, rfl⟩
  rw [← he]
  dsimp only
  by_cases h : e = 0
  · subst h
    obtain ⟨hc, hx⟩ := p7_tx' _ _ _ _ _ he.symm
    rw [if_pos rfl, text_is, if_pos hc, Option.bind_some]
    have e : txB f t d p = s := by
      unfold txB
      rw [hx, toB_byt]
    rw [e]
    simp
  · rw [if_neg h]

end Go.Proofs.Ytmoeodcmfjnihab.Pure
