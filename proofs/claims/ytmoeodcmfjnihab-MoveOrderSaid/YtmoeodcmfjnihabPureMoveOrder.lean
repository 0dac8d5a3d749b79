/- For all moves the law MoveOrder answers true: Compare's order of four numbers is the document's, and it is one. -/
import Derived.Test.YtmoeodcmfjnihabPax9
import Derived.Test.YtmoeodcmfjnihabPax4
import Derived.Test.YtmoeodcmfjnihabPax3
import Derived.Test.YtmoeodcmfjnihabPax5
import Derived.OpenShut
namespace Go.Proofs.Ytmoeodcmfjnihab.Pure
open Go.RowKit Go.Proofs.Ytmoeodcmfjnihab.Pa Go.Proofs.YtmoeodcmfjnihabW.PrintWords Go.Proofs.YtmoeodcmfjnihabW.PrintLast Go.Proofs.YtmoeodcmfjnihabW.PrintMore
set_option linter.unusedVariables false
set_option linter.unusedSimpArgs false

theorem all_i8 (P : Int → Bool) (h : (List.range 256).all (fun n => P ((n : Int) - 128)) = true) (a : Int) (ha : (Lit.int .i8 a).wf = true) : P a = true := by
  have hb := bounds_i8 ha
  have := List.all_eq_true.1 h (a + 128).toNat (List.mem_range.2 (by omega))
  rw [show (((a + 128).toNat : Nat) : Int) - 128 = a by omega] at this
  exact this
theorem all_to (m : Nat) (P : Int → Bool) (h : (List.range m).all (fun n => P (n : Int)) = true) (a : Int) (h0 : 0 ≤ a) (h1 : a < m) : P a = true := by
  have := List.all_eq_true.1 h a.toNat (List.mem_range.2 (by omega))
  rw [show ((a.toNat : Nat) : Int) = a by omega] at this
  exact this
theorem of_beq_some {o : Option Bool} (h : (o == some true) = true) : o = some true := by simpa using h

/-- The bytes of a text, as numbers. -/
def byt (s : ByteArray) : List Int := s.data.toList.map (fun b => ((b.toNat : Nat) : Int))
theorem byt_len (s : ByteArray) : (byt s).length = s.size := by unfold byt; simp
theorem byt_get (s : ByteArray) (i : Nat) (h : i < s.size) : rd (byt s) (i : Int) = bt s (i : Int) := by
  unfold rd byt bt
  have h' : (i : Int).toNat < s.size := by omega
  rw [dif_pos h']
  have e : (i : Int).toNat = i := by omega
  simp only [e]
  rw [List.getD_eq_getElem?_getD, List.getElem?_map, List.getElem?_eq_getElem (by simpa using h)]
  simp [ByteArray.getElem_eq_getElem_data]
theorem dec_lo (s : ByteArray) (i : Nat) (h : i < s.size) (ha : (s[i]'h).toNat < 128) : Utf8.decode s i = ((s[i]'h).toNat, 1) := decode_ascii s i h ha
theorem dec_hi (s : ByteArray) (i : Nat) (h : i < s.size) (ha : 128 ≤ (s[i]'h).toNat) : 128 ≤ (Utf8.decode s i).1 := by
  have e : (s.get! (i + 0)) = s[i]'h := by
    rw [Nat.add_zero]
    show s.data[i]! = s.data[i]
    exact getElem!_pos s.data i h
  unfold Utf8.decode
  dsimp only
  rw [if_neg (by rw [e]; omega)]
  repeat' split
  all_goals first
    | (show 128 ≤ Utf8.runeError; decide)
    | (rename_i hh; dsimp only; omega)
    | (rename_i hh; simp only [Bool.and_eq_true, decide_eq_true_eq] at hh; dsimp only; omega)
theorem dec_top (s : ByteArray) (i : Nat) : (Utf8.decode s i).1 ≤ 1114111 := by
  have h := Lib.rune_le s i
  omega
def Fail7 : Int × Int × Int × Bool × Int := (0, 0, 0, false, 70)
def sqv (a b : Int) : Int := if 49 ≤ a ∧ a ≤ 57 ∧ 97 ≤ b ∧ b ≤ 105 then 9 * (a - 49) + (b - 97) else -1
def p7 (l : List Int) : Int × Int × Int × Bool × Int :=
  if l.length = 4 ∨ l.length = 5 then
    if rd l 1 = 42 then
      if 1 ≤ piece_Parse.kind (rd l 0) ∧ piece_Parse.kind (rd l 0) ≤ 7 ∧ 0 ≤ sqv (rd l 2) (rd l 3) ∧ l.length = 4 then (0, sqv (rd l 2) (rd l 3), piece_Parse.kind (rd l 0), false, 0) else Fail7
    else if 0 ≤ sqv (rd l 0) (rd l 1) ∧ 0 ≤ sqv (rd l 2) (rd l 3) ∧ sqv (rd l 0) (rd l 1) ≠ sqv (rd l 2) (rd l 3) ∧ (l.length = 4 ∨ rd l 4 = 43) then (sqv (rd l 0) (rd l 1), sqv (rd l 2) (rd l 3), 0, decide (l.length = 5), 0) else Fail7
  else Fail7
theorem sqv_hi (a b : Int) (h : 128 ≤ a ∨ 128 ≤ b) : ¬ 0 ≤ sqv a b := by
  unfold sqv
  rw [if_neg (by omega)]
  omega
theorem kind_hi (a : Int) (h : 128 ≤ a ∨ a < 0) : piece_Parse.kind a = 0 := by
  unfold piece_Parse.kind
  rw [if_neg (by omega), if_neg (by omega), if_neg (by omega), if_neg (by omega), if_neg (by omega), if_neg (by omega), if_neg (by omega), if_neg (by omega)]
theorem p7_big (l : List Int) (h : ∃ x ∈ l, 128 ≤ x) : p7 l = Fail7 := by
  unfold p7
  by_cases hl : l.length = 4 ∨ l.length = 5
  · rw [if_pos hl]
    obtain ⟨x, hx, hx8⟩ := h
    have key : 128 ≤ rd l 0 ∨ 128 ≤ rd l 1 ∨ 128 ≤ rd l 2 ∨ 128 ≤ rd l 3 ∨ (l.length = 5 ∧ 128 ≤ rd l 4) := by
      match l, hl, hx with
      | [a, b, c, d], _, hx =>
        simp only [List.mem_cons, List.not_mem_nil, or_false] at hx
        show 128 ≤ a ∨ 128 ≤ b ∨ 128 ≤ c ∨ 128 ≤ d ∨ _
        rcases hx with rfl | rfl | rfl | rfl
        · exact .inl hx8
        · exact .inr (.inl hx8)
        · exact .inr (.inr (.inl hx8))
        · exact .inr (.inr (.inr (.inl hx8)))
      | [a, b, c, d, e], _, hx =>
        simp only [List.mem_cons, List.not_mem_nil, or_false] at hx
        show 128 ≤ a ∨ 128 ≤ b ∨ 128 ≤ c ∨ 128 ≤ d ∨ (_ ∧ 128 ≤ e)
        rcases hx with rfl | rfl | rfl | rfl | rfl
        · exact .inl hx8
        · exact .inr (.inl hx8)
        · exact .inr (.inr (.inl hx8))
        · exact .inr (.inr (.inr (.inl hx8)))
        · exact .inr (.inr (.inr (.inr ⟨rfl, hx8⟩)))
      | [], h, _ => simp at h
      | [_], h, _ => simp at h
      | [_, _], h, _ => simp at h
      | [_, _, _], h, _ => simp at h
      | _ :: _ :: _ :: _ :: _ :: _ :: _, h, _ => simp at h
    by_cases h42 : rd l 1 = 42
    · rw [if_pos h42, if_neg ?_]
      rintro ⟨k1, k2, k3, k4⟩
      rcases key with q | q | q | q | ⟨q, _⟩
      · rw [kind_hi _ (.inl q)] at k1; omega
      · omega
      · exact sqv_hi _ _ (.inl q) k3
      · exact sqv_hi _ _ (.inr q) k3
      · omega
    · rw [if_neg h42, if_neg ?_]
      rintro ⟨k1, k2, k3, k4⟩
      rcases key with q | q | q | q | ⟨q, q2⟩
      · exact sqv_hi _ _ (.inl q) k1
      · exact sqv_hi _ _ (.inr q) k1
      · exact sqv_hi _ _ (.inl q) k2
      · exact sqv_hi _ _ (.inr q) k2
      · omega
  · rw [if_neg hl]
theorem p7_six (l : List Int) (h : 6 ≤ l.length) : p7 l = Fail7 := by
  unfold p7
  rw [if_neg (by omega)]
theorem square_is (a b : Int) (ha : 0 ≤ a ∧ a ≤ 1114111) (hb : 0 ≤ b ∧ b ≤ 1114111) : move_square.f a b = some (sqv a b, decide (0 ≤ sqv a b)) := by
  unfold move_square.f
  have e1 : wrap64 (wrap32 (a - 49)) = a - 49 := by unfold wrap64 wrap32; omega
  have e2 : wrap64 (wrap32 (b - 97)) = b - 97 := by unfold wrap64 wrap32; omega
  rw [e1, e2]
  have e3 : set_Square.f (a - 49) (b - 97) = some (sqv a b) := by
    unfold set_Square.f sqv
    by_cases h : 49 ≤ a ∧ a ≤ 57 ∧ 97 ≤ b ∧ b ≤ 105
    · rw [if_pos h, if_neg (by omega), if_neg (by omega), if_neg (by omega), if_neg (by omega)]
      congr 1
      unfold wrap64
      omega
    · rw [if_neg h]
      repeat' split
      all_goals first | rfl | omega
  rw [e3]
  rfl
def sideOk (r : Int) : Bool := match piece_Parse.f r false with
  | some p => match piece_Side.f 9 p with
    | some d => (decide (d = 0 ∧ p ≠ 8) == decide (1 ≤ piece_Parse.kind r ∧ piece_Parse.kind r ≤ 7)) && (!decide (d = 0 ∧ p ≠ 8) || decide (wrap64 p = piece_Parse.kind r))
    | none => false
  | none => false
theorem parse_hi (r : Int) (h : 128 ≤ r) : piece_Parse.f r false = some 0 := by
  unfold piece_Parse.f
  rw [if_neg (by omega)]
  unfold piece_Parse.look
  rw [kind_hi r (.inl h), if_pos rfl]
theorem side_is (r : Int) (hr : 0 ≤ r) : ∃ p d, piece_Parse.f r false = some p ∧ piece_Side.f 9 p = some d ∧ ((d = 0 ∧ p ≠ 8) ↔ (1 ≤ piece_Parse.kind r ∧ piece_Parse.kind r ≤ 7)) ∧ ((d = 0 ∧ p ≠ 8) → wrap64 p = piece_Parse.kind r) := by
  by_cases h : r < 128
  · have hh := all_to 128 sideOk (by decide +kernel) r hr h
    unfold sideOk at hh
    cases hp : piece_Parse.f r false with
    | none => rw [hp] at hh; cases hh
    | some p =>
      rw [hp] at hh
      cases hd : piece_Side.f 9 p with
      | none => simp only [hd] at hh; cases hh
      | some d =>
        simp only [hd] at hh
        rw [Bool.and_eq_true, beq_iff_eq, decide_eq_decide] at hh
        refine ⟨p, d, rfl, hd, hh.1, fun q => ?_⟩
        have := hh.2
        simpa [q] using this
  · refine ⟨0, -1, parse_hi r (by omega), by decide +kernel, ?_, ?_⟩
    · rw [kind_hi r (.inl (by omega))]
      constructor <;> intro q <;> omega
    · intro q; omega
theorem g_is (l : List Int) (hl : ∀ i : Int, 0 ≤ rd l i ∧ rd l i ≤ 1114111) : move_Parse.g l = some (p7 l) := by
  unfold move_Parse.g p7
  by_cases h : l.length = 4 ∨ l.length = 5
  · rw [if_pos h, if_pos h]
    by_cases h42 : rd l 1 = 42
    · rw [if_pos h42, if_pos h42, square_is _ _ (hl 2) (hl 3)]
      obtain ⟨p, d, hp, hd, hiff, hw⟩ := side_is (rd l 0) (hl 0).1
      rw [hp]
      simp only [Option.bind_some]
      rw [hd]
      simp only [Option.bind_some, decide_eq_true_eq]
      by_cases hc : d = 0 ∧ p ≠ 8
      · have hk := hiff.1 hc
        have e : (d = 0 ∧ p ≠ 8 ∧ 0 ≤ sqv (rd l 2) (rd l 3) ∧ l.length = 4) ↔ (1 ≤ piece_Parse.kind (rd l 0) ∧ piece_Parse.kind (rd l 0) ≤ 7 ∧ 0 ≤ sqv (rd l 2) (rd l 3) ∧ l.length = 4) := ⟨fun q => ⟨hk.1, hk.2, q.2.2⟩, fun q => ⟨hc.1, hc.2, q.2.2⟩⟩
        rw [hw hc]
        by_cases hq : (d = 0 ∧ p ≠ 8 ∧ 0 ≤ sqv (rd l 2) (rd l 3) ∧ l.length = 4)
        · rw [if_pos hq, if_pos (e.1 hq)]
        · rw [if_neg hq, if_neg (fun x => hq (e.2 x))]; rfl
      · rw [if_neg (fun x => hc ⟨x.1, x.2.1⟩), if_neg (fun x => hc (hiff.2 ⟨x.1, x.2.1⟩))]; rfl
    · rw [if_neg h42, if_neg h42, square_is _ _ (hl 0) (hl 1), square_is _ _ (hl 2) (hl 3)]
      simp only [Option.bind_some, decide_eq_true_eq]
      by_cases hq : 0 ≤ sqv (rd l 0) (rd l 1) ∧ 0 ≤ sqv (rd l 2) (rd l 3) ∧ sqv (rd l 0) (rd l 1) ≠ sqv (rd l 2) (rd l 3) ∧ (l.length = 4 ∨ rd l 4 = 43)
      · rw [if_pos hq, if_pos hq]
        congr 5
        exact decide_eq_decide.2 (by omega)
      · rw [if_neg hq, if_neg hq]; rfl
  · rw [if_neg h, if_neg h]; rfl
theorem runes_lo (s : ByteArray) (hs : ∀ (j : Nat) (h : j < s.size), (s[j]'h).toNat < 128) : ∀ n i, move_Parse.runes s n i = ((byt s).drop i).take n
  | 0, i => by simp [move_Parse.runes]
  | n + 1, i => by
    by_cases hi : i < s.size
    · have e : move_Parse.runes s (n + 1) i = ((Utf8.decode s i).1 : Int) :: move_Parse.runes s n (i + (Utf8.decode s i).2) := by
        show (if i < s.size then _ else _) = _
        rw [if_pos hi]
      rw [e, dec_lo s i hi (hs i hi), runes_lo s hs n (i + 1)]
      have hb := byt_len s
      rw [List.drop_eq_getElem_cons (show i < (byt s).length by omega), List.take_succ_cons]
      congr 1
      unfold byt
      simp [ByteArray.getElem_eq_getElem_data]
    · have e : move_Parse.runes s (n + 1) i = [] := by
        show (if i < s.size then _ else _) = _
        rw [if_neg hi]
      rw [e, List.drop_of_length_le (by rw [byt_len]; omega), List.take_nil]
theorem runes_hi (s : ByteArray) (j : Nat) (hj : j < s.size) (hb : 128 ≤ (s[j]'hj).toNat) : ∀ n i, i ≤ j → (∃ x ∈ move_Parse.runes s n i, 128 ≤ x) ∨ (move_Parse.runes s n i).length = n
  | 0, i, _ => .inr (by simp [move_Parse.runes])
  | n + 1, i, hij => by
    have hi : i < s.size := by omega
    have e : move_Parse.runes s (n + 1) i = ((Utf8.decode s i).1 : Int) :: move_Parse.runes s n (i + (Utf8.decode s i).2) := by
      show (if i < s.size then _ else _) = _
      rw [if_pos hi]
    by_cases hlo : (s[i]'hi).toNat < 128
    · have hne : i ≠ j := by rintro rfl; omega
      rw [e, dec_lo s i hi hlo]
      rcases runes_hi s j hj hb n (i + 1) (by omega) with ⟨x, hx, hx8⟩ | h
      · exact .inl ⟨x, List.mem_cons_of_mem _ hx, hx8⟩
      · exact .inr (by simp [h])
    · have := dec_hi s i hi (by omega)
      exact .inl ⟨((Utf8.decode s i).1 : Int), by rw [e]; simp, by omega⟩
theorem runes_rd (s : ByteArray) : ∀ n i, ∀ x ∈ move_Parse.runes s n i, 0 ≤ x ∧ x ≤ 1114111
  | 0, i => by simp [move_Parse.runes]
  | n + 1, i => by
    intro x hx
    unfold move_Parse.runes at hx
    split at hx
    · rcases List.mem_cons.1 hx with rfl | hx
      · have := dec_top s i
        omega
      · exact runes_rd s n _ x hx
    · cases hx
theorem rd_of (l : List Int) (h : ∀ x ∈ l, 0 ≤ x ∧ x ≤ 1114111) (i : Int) : 0 ≤ rd l i ∧ rd l i ≤ 1114111 := by
  unfold rd
  rw [List.getD_eq_getElem?_getD]
  cases hq : l[i.toNat]? with
  | none => simp
  | some x => exact h x (List.mem_of_getElem? hq)
/-- The program's parse is that of the bytes. -/
theorem parse_is (s : ByteArray) : move_Parse.f s = some (p7 (byt s)) := by
  unfold move_Parse.f
  rw [g_is _ (rd_of _ (runes_rd s 6 0))]
  congr 1
  by_cases hs : ∀ (j : Nat) (h : j < s.size), (s[j]'h).toNat < 128
  · rw [runes_lo s hs 6 0, List.drop_zero]
    have hb := byt_len s
    by_cases h6 : s.size < 6
    · rw [List.take_of_length_le (show (byt s).length ≤ 6 by omega)]
    · rw [p7_six _ (by rw [List.length_take]; omega), p7_six _ (by omega)]
  · obtain ⟨j, hj, hb⟩ : ∃ (j : Nat) (h : j < s.size), 128 ≤ (s[j]'h).toNat := by
      false_or_by_contra
      rename_i hn
      exact hs (fun j h => by
        false_or_by_contra
        rename_i hh
        exact hn ⟨j, h, by omega⟩)
    have e1 : p7 (byt s) = Fail7 := p7_big _ ⟨(((s[j]'hj).toNat : Nat) : Int), by
      unfold byt
      rw [List.mem_map]
      exact ⟨s[j]'hj, by rw [ByteArray.getElem_eq_getElem_data]; simp, rfl⟩, by omega⟩
    rw [e1]
    rcases runes_hi s j hj hb 6 0 (by omega) with h | h
    · exact p7_big _ h
    · exact p7_six _ (by omega)

theorem empty_toList : (⟨#[]⟩ : ByteArray).toList = ([] : List UInt8) := by rw [ByteArray.toList_eq]
def ltrI (d : Int) : Int := if d = 1 then 80 else if d = 2 then 76 else if d = 3 then 78 else if d = 4 then 83 else if d = 5 then 71 else if d = 6 then 66 else if d = 7 then 82 else 0
def sqI (q : Int) : List Int := [49 + q / 9, 97 + q % 9]
def txI (f t d : Int) (p : Bool) : List Int := if d = 0 then sqI f ++ sqI t ++ (if p = true then [43] else []) else [ltrI d, 42] ++ sqI t
def toB (l : List Int) : List UInt8 := l.map (fun x => UInt8.ofNat x.toNat)
def txB (f t d : Int) (p : Bool) : ByteArray := ⟨(toB (txI f t d p)).toArray⟩
def sqB (q : Int) : ByteArray := ⟨(toB (sqI q)).toArray⟩
def ck (f t d : Int) (p : Bool) : Int := if t < 0 ∨ 80 < t then 1 else if d = 0 then (if f < 0 ∨ 80 < f then 1 else if f = t then 70 else 0) else if 1 ≤ d ∧ d ≤ 7 ∧ f = 0 ∧ p = false then 0 else 70
theorem byt_toB (l : List Int) (h : ∀ x ∈ l, 0 ≤ x ∧ x < 256) : byt ⟨(toB l).toArray⟩ = l := by
  unfold byt toB
  simp only [List.toList_toArray, List.map_map]
  rw [List.map_congr_left (g := id) (fun x hx => ?_), List.map_id]
  have := h x hx
  simp only [Function.comp, id, UInt8.toNat_ofNat']
  omega
theorem toB_byt (s : ByteArray) : toB (byt s) = s.data.toList := by
  unfold byt toB
  rw [List.map_map, List.map_congr_left (g := id) (fun x hx => ?_), List.map_id]
  simp
theorem txI_small (f t d : Int) (p : Bool) (h : ck f t d p = 0) : ∀ x ∈ txI f t d p, 0 ≤ x ∧ x < 128 := by
  unfold ck at h
  intro x hx
  split at h
  · cases h
  · unfold txI sqI at hx
    split at h
    · rename_i hd
      rw [if_pos hd] at hx
      have hf : 0 ≤ f ∧ f ≤ 80 := by
        split at h
        · cases h
        · omega
      cases p
      · simp only [List.cons_append, List.nil_append, List.mem_cons, List.not_mem_nil, or_false, Bool.false_eq_true, if_false] at hx
        omega
      · simp only [List.cons_append, List.nil_append, List.mem_cons, List.not_mem_nil, or_false, if_true] at hx
        omega
    · rename_i hd
      rw [if_neg hd] at hx
      simp only [List.cons_append, List.nil_append, List.mem_cons, List.not_mem_nil, or_false] at hx
      have hl : 0 ≤ ltrI d ∧ ltrI d < 128 := by unfold ltrI; repeat' split
                                                all_goals omega
      omega
theorem byt_tx (f t d : Int) (p : Bool) (h : ck f t d p = 0) : byt (txB f t d p) = txI f t d p := byt_toB _ (fun x hx => by have := txI_small f t d p h x hx; omega)
theorem check_is (f t d : Int) (p : Bool) : move_Check.f 20 f t d p = some (ck f t d p) := by
  unfold move_Check.f ck
  by_cases h1 : t < 0
  · rw [if_pos h1, if_pos (.inl h1)]; rfl
  · rw [if_neg h1]
    by_cases h2 : 80 < t
    · rw [show decide (t ≥ 81) = true from decide_eq_true (by omega), if_pos (.inr h2)]; rfl
    · rw [show decide (t ≥ 81) = false from decide_eq_false (by omega), if_neg (by omega)]
      simp only [move_Check.j0]
      rw [if_neg (by decide)]
      by_cases h3 : d = 0
      · rw [if_pos h3, if_pos h3]
        by_cases h4 : f < 0
        · rw [if_pos h4, if_pos (.inl h4)]; rfl
        · rw [if_neg h4]
          by_cases h5 : 80 < f
          · rw [show decide (f ≥ 81) = true from decide_eq_true (by omega), if_pos (.inr h5)]; rfl
          · rw [show decide (f ≥ 81) = false from decide_eq_false (by omega), if_neg (by omega)]
            show (if false = true then some 1 else (if f = t then some 70 else some 0)) = _
            rw [if_neg (by decide)]
            split <;> rfl
      · rw [if_neg h3, if_neg h3]
        by_cases hd : 1 ≤ d ∧ d ≤ 7 ∧ f = 0 ∧ p = false
        · rw [if_pos hd, if_neg (by omega), if_neg (by omega), if_pos hd.2.2.1, hd.2.2.2]; rfl
        · rw [if_neg hd]
          by_cases q1 : d < 0
          · rw [if_pos q1]
          · rw [if_neg q1]
            by_cases q2 : d ≥ 8
            · rw [if_pos q2]
            · rw [if_neg q2]
              by_cases q3 : f = 0
              · rw [if_pos q3]
                cases p
                · exact absurd ⟨by omega, by omega, q3, rfl⟩ hd
                · rfl
              · rw [if_neg q3]
theorem rcheck_is (f t d : Int) (p : Bool) : kakugyoref07_Check.f 20 f t d p = some (ck f t d p) := by
  unfold kakugyoref07_Check.f ck
  by_cases h1 : t < 0
  · rw [if_pos h1, if_pos (.inl h1)]; rfl
  · rw [if_neg h1]
    by_cases h2 : 80 < t
    · rw [show decide (t > 80) = true from decide_eq_true (by omega), if_pos (.inr h2)]; rfl
    · rw [show decide (t > 80) = false from decide_eq_false (by omega), if_neg (by omega)]
      simp only [kakugyoref07_Check.j0]
      rw [if_neg (by decide)]
      by_cases h3 : d = 0
      · rw [if_pos h3, if_pos h3]
        by_cases h4 : f < 0
        · rw [if_pos h4, if_pos (.inl h4)]; rfl
        · rw [if_neg h4]
          by_cases h5 : 80 < f
          · rw [show decide (f > 80) = true from decide_eq_true (by omega), if_pos (.inr h5)]; rfl
          · rw [show decide (f > 80) = false from decide_eq_false (by omega), if_neg (by omega)]
            show (if false = true then some 1 else (if f = t then some 70 else some 0)) = _
            rw [if_neg (by decide)]
            split <;> rfl
      · rw [if_neg h3, if_neg h3]
        by_cases hd : 1 ≤ d ∧ d ≤ 7 ∧ f = 0 ∧ p = false
        · rw [if_pos hd, if_neg (by omega), if_neg (by omega), if_pos hd.2.2.1, hd.2.2.2]; rfl
        · rw [if_neg hd]
          by_cases q1 : d < 1
          · rw [if_pos q1]
          · rw [if_neg q1]
            by_cases q2 : d > 7
            · rw [if_pos q2]
            · rw [if_neg q2]
              by_cases q3 : f = 0
              · rw [if_pos q3]
                cases p
                · exact absurd ⟨by omega, by omega, q3, rfl⟩ hd
                · rfl
              · rw [if_neg q3]
theorem names_is : kakugyolaw07_names.f 20 = some true := by decide +kernel
def sqOk (q : Int) : Bool := decide (move_Square.f 20 q = some (sqB q)) && decide (kakugyoref07_Square.f q = some (sqB q))
theorem sq_is (q : Int) (h0 : 0 ≤ q) (h1 : q ≤ 80) : move_Square.f 20 q = some (sqB q) ∧ kakugyoref07_Square.f q = some (sqB q) := by
  have hh := all_to 81 sqOk (by decide +kernel) q h0 (by omega)
  unfold sqOk at hh
  rw [Bool.and_eq_true] at hh
  exact ⟨of_decide_eq_true hh.1, of_decide_eq_true hh.2⟩
theorem sq_none (q : Int) (h : q < 0 ∨ 80 < q) : move_Square.f 20 q = some ⟨#[]⟩ := by
  unfold move_Square.f
  by_cases h1 : q < 0
  · rw [if_pos h1]; rfl
  · rw [if_neg h1, show decide (q ≥ 81) = true from decide_eq_true (by omega)]; rfl
def dropOk (d : Int) : Bool := d == 0 || (decide (piece_Of.f 0 d = some d) && decide (piece_Name.f 20 d = some ⟨#[UInt8.ofNat (ltrI d).toNat]⟩) && decide ((⟨#[80, 76, 78, 83, 71, 66, 82]⟩ : ByteArray).extract (wrap64 (d - 1)).toNat d.toNat = ⟨#[UInt8.ofNat (ltrI d).toNat]⟩))
theorem drop_is (d : Int) (h0 : 1 ≤ d) (h1 : d ≤ 7) : piece_Of.f 0 d = some d ∧ piece_Name.f 20 d = some ⟨#[UInt8.ofNat (ltrI d).toNat]⟩ ∧ (⟨#[80, 76, 78, 83, 71, 66, 82]⟩ : ByteArray).extract (wrap64 (d - 1)).toNat d.toNat = ⟨#[UInt8.ofNat (ltrI d).toNat]⟩ := by
  have hh := all_to 8 dropOk (by decide +kernel) d (by omega) (by omega)
  unfold dropOk at hh
  rw [Bool.or_eq_true, beq_iff_eq, Bool.and_eq_true, Bool.and_eq_true] at hh
  rcases hh with hh | ⟨⟨a, b⟩, c⟩
  · omega
  · exact ⟨of_decide_eq_true a, of_decide_eq_true b, of_decide_eq_true c⟩
theorem toB_app (a b : List Int) : (⟨(toB a).toArray⟩ : ByteArray) ++ ⟨(toB b).toArray⟩ = ⟨(toB (a ++ b)).toArray⟩ := by
  apply ByteArray.ext
  rw [ByteArray.data_append]
  simp [toB]
theorem toB_size (l : List Int) : (⟨(toB l).toArray⟩ : ByteArray).size = l.length := by
  show (toB l).toArray.size = _
  simp [toB]
theorem text_is (f t d : Int) (p : Bool) : move_Text.f 20 f t d p = some (if ck f t d p = 0 then txB f t d p else ⟨#[]⟩) := by
  unfold move_Text.f
  rw [check_is, Option.bind_some]
  by_cases h : ck f t d p = 0
  · rw [if_pos h, if_pos h]
    have h' := h
    unfold ck at h'
    have ht : 0 ≤ t ∧ t ≤ 80 := by
      by_cases q : t < 0 ∨ 80 < t
      · rw [if_pos q] at h'; cases h'
      · omega
    rw [if_neg (by omega)] at h'
    by_cases hd : d = 0
    · rw [if_pos hd] at h' ⊢
      have hf : 0 ≤ f ∧ f ≤ 80 := by
        by_cases q : f < 0 ∨ 80 < f
        · rw [if_pos q] at h'; cases h'
        · omega
      rw [(sq_is f hf.1 hf.2).1, (sq_is t ht.1 ht.2).1]
      simp only [Option.bind_some]
      unfold txB txI
      rw [if_pos hd]
      cases p
      · rw [if_neg (by decide), if_pos (by unfold sqB; rw [toB_size, toB_size]; exact (by decide : 2 + 2 ≤ 9223372036854775807)), if_neg (by decide), List.append_nil]
        unfold sqB
        rw [toB_app]
      · rw [if_pos rfl, if_pos rfl, if_pos (by unfold sqB; rw [toB_size, toB_size]; exact (by decide : 2 + 2 ≤ 9223372036854775807))]
        have e : sqB f ++ sqB t = ⟨(toB (sqI f ++ sqI t)).toArray⟩ := by unfold sqB; rw [toB_app]
        rw [e, if_pos (by rw [toB_size]; exact (by decide : 4 + 1 ≤ 9223372036854775807))]
        exact congrArg some (toB_app (sqI f ++ sqI t) [43])
    · rw [if_neg hd] at h' ⊢
      have hk : 1 ≤ d ∧ d ≤ 7 ∧ f = 0 ∧ p = false := by
        by_cases q : 1 ≤ d ∧ d ≤ 7 ∧ f = 0 ∧ p = false
        · exact q
        · rw [if_neg q] at h'; cases h'
      obtain ⟨d1, d2, d3⟩ := drop_is d hk.1 hk.2.1
      rw [d1, Option.bind_some, d2, Option.bind_some, (sq_is t ht.1 ht.2).1, Option.bind_some]
      unfold txB txI
      rw [if_neg hd, if_pos (by show 1 + 1 ≤ _; decide)]
      have e : (⟨#[UInt8.ofNat (ltrI d).toNat]⟩ : ByteArray) ++ (⟨#[42]⟩ : ByteArray) = ⟨(toB [ltrI d, 42]).toArray⟩ := rfl
      rw [e]
      unfold sqB
      rw [toB_size, toB_size, if_pos (by exact (by decide : 2 + 2 ≤ 9223372036854775807)), toB_app]
  · rw [if_neg h, if_neg h]
theorem rtext_is (f t d : Int) (p : Bool) : kakugyoref07_Text.f 20 f t d p = some (if ck f t d p = 0 then txB f t d p else ⟨#[]⟩) := by
  unfold kakugyoref07_Text.f
  rw [rcheck_is, Option.bind_some]
  by_cases h : ck f t d p = 0
  · rw [if_pos h, if_pos h]
    have h' := h
    unfold ck at h'
    have ht : 0 ≤ t ∧ t ≤ 80 := by
      by_cases q : t < 0 ∨ 80 < t
      · rw [if_pos q] at h'; cases h'
      · omega
    rw [if_neg (by omega)] at h'
    by_cases hd : d = 0
    · rw [if_pos hd] at h' ⊢
      have hf : 0 ≤ f ∧ f ≤ 80 := by
        by_cases q : f < 0 ∨ 80 < f
        · rw [if_pos q] at h'; cases h'
        · omega
      rw [(sq_is f hf.1 hf.2).2, (sq_is t ht.1 ht.2).2]
      simp only [Option.bind_some]
      unfold txB txI
      rw [if_pos hd, if_pos (by unfold sqB; rw [toB_size, toB_size]; exact (by decide : 2 + 2 ≤ 9223372036854775807))]
      have e : sqB f ++ sqB t = ⟨(toB (sqI f ++ sqI t)).toArray⟩ := by unfold sqB; rw [toB_app]
      rw [e]
      cases p
      · rw [if_neg (by decide), if_neg (by decide), List.append_nil]
      · rw [if_pos rfl, if_pos rfl, if_pos (by rw [toB_size]; exact (by decide : 4 + 1 ≤ 9223372036854775807))]
        exact congrArg some (toB_app (sqI f ++ sqI t) [43])
    · rw [if_neg hd] at h' ⊢
      have hk : 1 ≤ d ∧ d ≤ 7 ∧ f = 0 ∧ p = false := by
        by_cases q : 1 ≤ d ∧ d ≤ 7 ∧ f = 0 ∧ p = false
        · exact q
        · rw [if_neg q] at h'; cases h'
      obtain ⟨d1, d2, d3⟩ := drop_is d hk.1 hk.2.1
      have w1 : wrap64 (d - 1) = d - 1 := by unfold wrap64; omega
      rw [d3, if_pos (by rw [w1]; omega), if_pos (by rw [w1]; omega), if_pos hk.2.1, (sq_is t ht.1 ht.2).2, Option.bind_some]
      unfold txB txI
      rw [if_neg hd, if_pos (by show 1 + 1 ≤ _; decide)]
      have e : (⟨#[UInt8.ofNat (ltrI d).toNat]⟩ : ByteArray) ++ (⟨#[42]⟩ : ByteArray) = ⟨(toB [ltrI d, 42]).toArray⟩ := rfl
      rw [e]
      unfold sqB
      rw [toB_size, toB_size, if_pos (by exact (by decide : 2 + 2 ≤ 9223372036854775807)), toB_app]
  · rw [if_neg h, if_neg h]
theorem sqv_is (q : Int) (h0 : 0 ≤ q) (h1 : q ≤ 80) : sqv (49 + q / 9) (97 + q % 9) = q := by
  unfold sqv
  rw [if_pos (by omega)]
  omega
theorem kind_ltr (d : Int) (h0 : 1 ≤ d) (h1 : d ≤ 7) : piece_Parse.kind (ltrI d) = d := by
  obtain rfl | rfl | rfl | rfl | rfl | rfl | rfl : d = 1 ∨ d = 2 ∨ d = 3 ∨ d = 4 ∨ d = 5 ∨ d = 6 ∨ d = 7 := by omega
  all_goals rfl
theorem ltr_kind (a : Int) (h : 1 ≤ piece_Parse.kind a ∧ piece_Parse.kind a ≤ 7) : ltrI (piece_Parse.kind a) = a := by
  unfold piece_Parse.kind at h ⊢
  repeat' split
  all_goals (first | (subst_vars; rfl) | (exfalso; simp_all))
theorem p7_mv (l : List Int) (f t : Int) (hl : l.length = 4 ∨ l.length = 5) (h0 : rd l 0 = 49 + f / 9) (h1 : rd l 1 = 97 + f % 9) (h2 : rd l 2 = 49 + t / 9) (h3 : rd l 3 = 97 + t % 9) (hf : 0 ≤ f ∧ f ≤ 80) (ht : 0 ≤ t ∧ t ≤ 80) (hne : f ≠ t) : p7 l = if l.length = 4 ∨ rd l 4 = 43 then (f, t, 0, decide (l.length = 5), 0) else Fail7 := by
  unfold p7
  rw [if_pos hl, h0, h1, h2, h3, if_neg (by omega), sqv_is f hf.1 hf.2, sqv_is t ht.1 ht.2]
  by_cases h4 : l.length = 4 ∨ rd l 4 = 43
  · rw [if_pos h4, if_pos ⟨hf.1, ht.1, hne, h4⟩]
  · rw [if_neg h4, if_neg (fun q => h4 q.2.2.2)]
theorem p7_dr (l : List Int) (t d : Int) (hl : l.length = 4 ∨ l.length = 5) (h0 : rd l 0 = ltrI d) (h1 : rd l 1 = 42) (h2 : rd l 2 = 49 + t / 9) (h3 : rd l 3 = 97 + t % 9) (hd : 1 ≤ d ∧ d ≤ 7) (ht : 0 ≤ t ∧ t ≤ 80) : p7 l = if l.length = 4 then (0, t, d, false, 0) else Fail7 := by
  unfold p7
  rw [if_pos hl, h0, h1, h2, h3, if_pos rfl, sqv_is t ht.1 ht.2, kind_ltr d hd.1 hd.2]
  by_cases h4 : l.length = 4
  · rw [if_pos h4, if_pos ⟨hd.1, hd.2, ht.1, h4⟩]
  · rw [if_neg h4, if_neg (fun q => h4 q.2.2.2)]
theorem ck_ok (f t d : Int) (p : Bool) (h : ck f t d p = 0) : (0 ≤ t ∧ t ≤ 80) ∧ ((d = 0 ∧ (0 ≤ f ∧ f ≤ 80) ∧ f ≠ t) ∨ (d ≠ 0 ∧ (1 ≤ d ∧ d ≤ 7) ∧ f = 0 ∧ p = false)) := by
  unfold ck at h
  by_cases q : t < 0 ∨ 80 < t
  · rw [if_pos q] at h; cases h
  · rw [if_neg q] at h
    refine ⟨by omega, ?_⟩
    by_cases hd : d = 0
    · rw [if_pos hd] at h
      by_cases q : f < 0 ∨ 80 < f
      · rw [if_pos q] at h; cases h
      · rw [if_neg q] at h
        by_cases q2 : f = t
        · rw [if_pos q2] at h; cases h
        · exact .inl ⟨hd, by omega, q2⟩
    · rw [if_neg hd] at h
      by_cases q : 1 ≤ d ∧ d ≤ 7 ∧ f = 0 ∧ p = false
      · exact .inr ⟨hd, ⟨q.1, q.2.1⟩, q.2.2.1, q.2.2.2⟩
      · rw [if_neg q] at h; cases h
theorem p7_tx (f t d : Int) (p : Bool) (h : ck f t d p = 0) : p7 (txI f t d p) = (f, t, d, p, 0) := by
  obtain ⟨ht, ⟨rfl, hf, hne⟩ | ⟨hd, hk, rfl, rfl⟩⟩ := ck_ok f t d p h
  · unfold txI sqI
    rw [if_pos rfl]
    cases p
    · exact (p7_mv [49 + f / 9, 97 + f % 9, 49 + t / 9, 97 + t % 9] f t (.inl rfl) rfl rfl rfl rfl hf ht hne).trans (if_pos (.inl rfl))
    · exact (p7_mv [49 + f / 9, 97 + f % 9, 49 + t / 9, 97 + t % 9, 43] f t (.inr rfl) rfl rfl rfl rfl hf ht hne).trans (if_pos (.inr rfl))
  · unfold txI sqI
    rw [if_neg hd]
    exact (p7_dr [ltrI d, 42, 49 + t / 9, 97 + t % 9] t d (.inl rfl) rfl rfl rfl rfl hk ht).trans (if_pos rfl)

theorem cmp_neg : ∀ l m : List Int, move_Compare.cmp m l = -move_Compare.cmp l m
  | [], [] => rfl
  | [], _ :: _ => rfl
  | _ :: _, [] => rfl
  | x :: xs, y :: ys => by
    have ih := cmp_neg xs ys
    simp only [move_Compare.cmp]
    by_cases h1 : x < y
    · rw [if_pos h1, if_neg (by omega), if_pos (by omega)]; rfl
    · by_cases h2 : y < x
      · rw [if_pos h2, if_neg h1, if_pos (by omega)]
      · rw [if_neg h1, if_neg h2, if_neg (by omega), if_neg (by omega), ih]
theorem cmp_rng : ∀ l m : List Int, move_Compare.cmp l m = -1 ∨ move_Compare.cmp l m = 0 ∨ move_Compare.cmp l m = 1
  | [], [] => .inr (.inl rfl)
  | [], _ :: _ => .inr (.inl rfl)
  | _ :: _, [] => .inr (.inl rfl)
  | x :: xs, y :: ys => by
    have ih := cmp_rng xs ys
    simp only [move_Compare.cmp]
    repeat' split
    · exact .inl rfl
    · exact .inr (.inr rfl)
    · exact ih
theorem cmp_zero : ∀ l m : List Int, l.length = m.length → (move_Compare.cmp l m = 0 ↔ l = m)
  | [], [] => fun _ => by simp [move_Compare.cmp]
  | [], _ :: _ => fun h => by simp at h
  | _ :: _, [] => fun h => by simp at h
  | x :: xs, y :: ys => fun h => by
    have ih := cmp_zero xs ys (by simpa using h)
    simp only [move_Compare.cmp]
    by_cases h1 : x < y
    · rw [if_pos h1]
      constructor
      · intro q; omega
      · intro q; injection q with q1 q2; omega
    · by_cases h2 : x > y
      · rw [if_neg h1, if_pos h2]
        constructor
        · intro q; omega
        · intro q; injection q with q1 q2; omega
      · rw [if_neg h1, if_neg h2, ih]
        have e : x = y := by omega
        subst e
        simp
theorem cmp_trans : ∀ l m n : List Int, l.length = m.length → m.length = n.length → move_Compare.cmp l m ≤ 0 → move_Compare.cmp m n ≤ 0 → move_Compare.cmp l n ≤ 0
  | [], [], [] => fun _ _ _ _ => by simp [move_Compare.cmp]
  | [], _ :: _, _ => fun h => by simp at h
  | _ :: _, [], _ => fun h => by simp at h
  | [], [], _ :: _ => fun _ h => by simp at h
  | _ :: _, _ :: _, [] => fun _ h => by simp at h
  | x :: xs, y :: ys, z :: zs => fun h1 h2 a b => by
    have ih := cmp_trans xs ys zs (by simpa using h1) (by simpa using h2)
    simp only [move_Compare.cmp] at a b ⊢
    by_cases e1 : x < z
    · rw [if_pos e1]; omega
    · rw [if_neg e1]
      have q1 : ¬ x > y := by intro q; rw [if_neg (by omega), if_pos q] at a; omega
      have q2 : ¬ y > z := by intro q; rw [if_neg (by omega), if_pos q] at b; omega
      rw [if_neg (by omega)]
      rw [if_neg (by omega), if_neg q1] at a
      rw [if_neg (by omega), if_neg q2] at b
      exact ih a b
theorem less_is (f t d : Int) (p : Bool) (f' t' d' : Int) (p' : Bool) : kakugyoref07_Less.f f t d p f' t' d' p' = some (decide (move_Compare.cmp (move_Compare.row f t d p) (move_Compare.row f' t' d' p') < 0)) := by
  unfold kakugyoref07_Less.f
  simp only [move_Compare.row, move_Compare.cmp]
  by_cases h1 : d = d'
  · subst h1
    simp only [gt_iff_lt, Int.lt_irrefl, if_false, if_true]
    by_cases h2 : f = f'
    · subst h2
      simp only [Int.lt_irrefl, if_false, if_true]
      by_cases h3 : t = t'
      · subst h3
        simp only [Int.lt_irrefl, if_false, if_true]
        cases p <;> cases p' <;> rfl
      · rw [if_neg h3]
        by_cases q : t < t'
        · rw [if_pos q, show decide (t < t') = true from decide_eq_true q]; rfl
        · rw [if_neg q, if_pos (by omega), show decide (t < t') = false from decide_eq_false q]; rfl
    · rw [if_neg h2]
      by_cases q : f < f'
      · rw [if_pos q, show decide (f < f') = true from decide_eq_true q]; rfl
      · rw [if_neg q, if_pos (by omega), show decide (f < f') = false from decide_eq_false q]; rfl
  · rw [if_neg h1]
    by_cases q : d < d'
    · rw [if_pos q, show decide (d < d') = true from decide_eq_true q]; rfl
    · rw [if_neg q, if_pos (by omega), show decide (d < d') = false from decide_eq_false q]; rfl
theorem row_eq (f t d : Int) (p : Bool) (f' t' d' : Int) (p' : Bool) : (move_Compare.row f t d p = move_Compare.row f' t' d' p') ↔ (f = f' ∧ t = t' ∧ d = d' ∧ p = p') := by
  unfold move_Compare.row move_Compare.one
  constructor
  · intro h
    injection h with h1 h
    injection h with h2 h
    injection h with h3 h
    injection h with h4 h
    refine ⟨h2, h3, h1, ?_⟩
    cases p <;> cases p' <;> simp at h4 ⊢
  · rintro ⟨rfl, rfl, rfl, rfl⟩
    rfl
theorem MoveOrder : kakugyolaw07_MoveOrder.Pure := by
  intro af at' ad ap bf bt' bd bp cf ct cd cp _ _ _ _ _ _ _ _ _
  refine ⟨20, ?_⟩
  unfold kakugyolaw07_MoveOrder.f
  have len : ∀ f t d p, (move_Compare.row f t d p).length = 4 := fun _ _ _ _ => rfl
  have hcf : ∀ f t d p f' t' d' p', move_Compare.f f t d p f' t' d' p' = some (move_Compare.cmp (move_Compare.row f t d p) (move_Compare.row f' t' d' p')) := fun _ _ _ _ _ _ _ _ => rfl
  have hz := cmp_zero (move_Compare.row af at' ad ap) (move_Compare.row bf bt' bd bp) rfl
  rw [row_eq] at hz
  have hn := cmp_neg (move_Compare.row af at' ad ap) (move_Compare.row bf bt' bd bp)
  have hr := cmp_rng (move_Compare.row af at' ad ap) (move_Compare.row bf bt' bd bp)
  have htr := cmp_trans (move_Compare.row af at' ad ap) (move_Compare.row bf bt' bd bp) (move_Compare.row cf ct cd cp) rfl rfl
  simp only [kakugyolaw07_MoveOrder.j0]
  rw [names_is, Option.bind_some, if_pos rfl]
  simp only [hcf, less_is, Option.bind_some]
  rw [hn]
  generalize move_Compare.cmp (move_Compare.row af at' ad ap) (move_Compare.row bf bt' bd bp) = n at *
  generalize move_Compare.cmp (move_Compare.row bf bt' bd bp) (move_Compare.row cf ct cd cp) = m at *
  generalize move_Compare.cmp (move_Compare.row af at' ad ap) (move_Compare.row cf ct cd cp) = o at *
  rw [if_neg (by simp), show decide (-n < 0) = decide (n > 0) from decide_eq_decide.2 (by omega), if_neg (by simp)]
  have e : (af == bf && (at' == bt' && (ad == bd && (ap == bp)))) = (n == 0) := by
    by_cases h : n = 0
    · obtain ⟨rfl, rfl, rfl, rfl⟩ := hz.1 h
      subst h; simp
    · rw [show (n == 0) = false from beq_eq_false_iff_ne.2 h]
      have := fun q => h (hz.2 q)
      simp only [Bool.and_eq_false_iff, beq_eq_false_iff_ne]
      by_cases q1 : af = bf
      · by_cases q2 : at' = bt'
        · by_cases q3 : ad = bd
          · exact .inr (.inr (.inr (fun q4 => this ⟨q1, q2, q3, q4⟩)))
          · exact .inr (.inr (.inl q3))
        · exact .inr (.inl q2)
      · exact .inl q1
  rw [e, if_neg (by simp), if_neg (by omega), if_neg (by omega), show wrap64 (-n) = -n by unfold wrap64; omega, if_neg (by simp)]
  by_cases h1 : n ≤ 0
  · rw [if_pos h1]
    by_cases h2 : m ≤ 0
    · rw [if_pos h2, decide_eq_true (htr h1 h2)]
    · rw [if_neg h2]
  · rw [if_neg h1]

end Go.Proofs.Ytmoeodcmfjnihab.Pure
