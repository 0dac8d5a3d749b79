/- The abstract machine: values by their kinds, a heap of blocks, and what the operations of the program's code do to them. Definitions alone. -/
import Derived.WalkKit
import Derived.StillTail
import Derived.Laws.AppendOwn
import Derived.Deep.MidRow
import Derived.ChangeKeysEq
section
set_option linter.constructorNameAsVariable false
set_option linter.unusedVariables false
namespace Go.AM

/-- Kinds of references. -/
inductive RK where | p | s | m
  deriving DecidableEq, Inhabited

inductive Ref where | np | p (b : Nat) | ns | w (b : Nat) | nm | m (b : Nat)
  deriving DecidableEq, Inhabited

/-- Kinds of data: i an integer; b, s; a: a row of n integers of a kind (arrays, nests of them, structs with such); r: a reference; p: a field and the rest of a struct, u: its end; l: an array of others. -/
inductive Ty where
  | i (k : IntKind) | b | s | a (k : IntKind) (n : Nat) | r (k : RK) | u | p (x y : Ty) | l (n : Nat) (t : Ty)
  deriving DecidableEq, Inhabited

@[reducible] def Ty.den : Ty → Type
  | .i _ => Int | .b => Bool | .s => ByteArray | .a _ _ => List Int | .r _ => Unit | .u => Unit
  | .p x y => x.den × y.den | .l _ t => List t.den

def dfl : (t : Ty) → t.den
  | .i _ => (0 : Int) | .b => false | .s => (⟨#[]⟩ : ByteArray) | .a _ n => List.replicate n (0 : Int) | .r _ => () | .u => ()
  | .p x y => (dfl x, dfl y) | .l n t => List.replicate n (dfl t)

def RK.nil : RK → Ref | .p => .np | .s => .ns | .m => .nm

/-- The references of a kind's zero value, in order (arrays of others hold none). -/
def drs : Ty → List Ref
  | .r k => [k.nil] | .p x y => drs x ++ drs y | _ => []
/-- How many references. -/
def Ty.nr : Ty → Nat
  | .r _ => 1 | .p x y => x.nr + y.nr | _ => 0
/-- How many cells. -/
def Ty.sz : Ty → Nat
  | .i _ | .b | .s | .r _ => 1 | .a _ n => n | .u => 0 | .p x y => x.sz + y.sz | .l n t => n * t.sz
/-- A struct or an array? -/
def Ty.ag : Ty → Bool
  | .a _ _ | .u | .p _ _ | .l _ _ => true | _ => false

/-- A step of a path within a block: f: a field; i: an element; o: from a place of a row of integers on: one of them, or so many. -/
inductive Stp where | f (j : Nat) | i (n : Nat) | o (off : Option Nat) (n : Option Nat)
  deriving Inhabited, DecidableEq

inductive D where
  | v (t : Ty) (x : t.den) (rs : List Ref)
  | no
  | tup (l : List D)
  | fc (t : TypeId) (d : D)
  | nf
  | sl (b : Nat) (off : Option Nat) (n : Nat)
  | ip (b : Nat) (q : List Stp)
  | clo (f : FuncId) (c : List D)
  | it (b : Nat)
instance : Inhabited D := ⟨.no⟩

inductive Blk where
  | o (t : Ty) (x : t.den) (rs : List Ref)
  | w (e : TypeId) (t : Ty) (l : List t.den) (own : Bool)
  | it (s : ByteArray) (pos : Nat)
  | de
  | sh (t : Ty)
instance : Inhabited Blk := ⟨.de⟩

structure St where
  t : List D
  h : List Blk

def cst (t u : Ty) (x : t.den) : Option u.den := if h : t = u then some (h ▸ x) else none
def asT (u : Ty) : D → Option u.den
  | .v t x [] => cst t u x
  | _ => none

/-! ### Leaves: what integers, truths and texts come to -/
@[irreducible] def wa (k : IntKind) (a b : Int) : Int := k.wrap (a + b)
@[irreducible] def ws (k : IntKind) (a b : Int) : Int := k.wrap (a - b)
@[irreducible] def wm (k : IntKind) (a b : Int) : Int := k.wrap (a * b)
@[irreducible] def qu (k : IntKind) (a b : Int) : Int := k.wrap (a.tdiv b)
@[irreducible] def rm (a b : Int) : Int := a.tmod b
@[irreducible] def ban (k : IntKind) (a b : Int) : Int := k.wrap (BitVec.ofInt k.bits a &&& BitVec.ofInt k.bits b).toNat
@[irreducible] def bor (k : IntKind) (a b : Int) : Int := k.wrap (BitVec.ofInt k.bits a ||| BitVec.ofInt k.bits b).toNat
@[irreducible] def bxo (k : IntKind) (a b : Int) : Int := k.wrap (BitVec.ofInt k.bits a ^^^ BitVec.ofInt k.bits b).toNat
@[irreducible] def bno (k : IntKind) (a b : Int) : Int := k.wrap (BitVec.ofInt k.bits a &&& ~~~BitVec.ofInt k.bits b).toNat
@[irreducible] def sh (k : IntKind) (a b : Int) : Int := k.wrap (a * 2 ^ (min b.toNat k.bits))
@[irreducible] def shr (k : IntKind) (a b : Int) : Int := a.fdiv (2 ^ (min b.toNat k.bits))
@[irreducible] def wr (k : IntKind) (a : Int) : Int := k.wrap a
@[irreducible] def lt (a b : Int) : Bool := decide (a < b)
@[irreducible] def le (a b : Int) : Bool := decide (a ≤ b)
@[irreducible] def eq (a b : Int) : Bool := a == b
@[irreducible] def seq (a b : ByteArray) : Bool := a.toList == b.toList
@[irreducible] def cat (a b : ByteArray) : ByteArray := a ++ b
@[irreducible] def byt (s : ByteArray) (i : Int) : Int := (s.get! i.toNat).toNat
@[irreducible] def len (s : ByteArray) : Int := (s.size : Int)
@[irreducible] def inr (i : Int) (n : Int) : Bool := decide (0 ≤ i ∧ i < n)
@[irreducible] def inq (i : Int) (n : Int) : Bool := decide (0 ≤ i ∧ i ≤ n)

@[irreducible] def Br {α : Type} (c : Bool) (x y : Option α) : Option α := bif c then x else y

/-- What comes of an answer that may fail. -/
def ob {Y R : Type} (o : Option Y) (k : Y → Option R) : Option R := match o with | some y => k y | none => none
def sm {A B R : Type} (x : A ⊕ B) (f : A → Option R) (g : B → Option R) : Option R := match x with | .inl a => f a | .inr b => g b

/-- A constant as it stands in the code. -/
def ofV : Value → D
  | .int k n => .v (.i k) n [] | .bool b => .v .b b [] | .string s => .v .s s []
  | .pointer none => .v (.r .p) () [.np] | .slice none 0 0 => .v (.r .s) () [.ns] | .map none => .v (.r .m) () [.nm]
  | .nilIface => .nf | _ => .no

def tf (t : List D) (i : Nat) : D := t.getD i .no
def ev (t : Nat → D) : Operand → D
  | .tmp i => t i | .const v => ofV v | .func f => .clo f [] | .global _ => .no

/-- What an operation comes to: one thing, or one of two as a test says, or what a call's answer makes of it. -/
inductive G (α : Type) : Type 1 where
  | one (x : α) | bad | br (c : Bool) (x y : G α) | call {Y : Type} (o : Option Y) (f : Y → G α) | sm {A B : Type} (x : A ⊕ B) (f : A → G α) (g : B → G α)
end Go.AM
end
/- The abstract machine: what the operations and the code do. Definitions alone. -/
section
set_option linter.constructorNameAsVariable false
set_option linter.unusedVariables false
namespace Go.AM

/-- What is known of a type: its kind; of a struct its fields' places and, of those that are rows, how many cells; of an array its length, and of its elements the same. -/
structure TI where
  ty : Ty
  fs : List (Nat × Option Nat) := []
  n : Nat := 0
  el : Option Nat := none
  esz : Nat := 1
  e : TypeId := 0
  et : Ty := .u

/-! ### Forms: data whose numbers alone are open -/
/-- Forms of values; c, e: a row of them. -/
inductive SD where
  | t (ty : Ty) (rs : List Ref) | it (b : Nat) | nf | sv (b : Nat) | sn (b : Nat) | fc (t : TypeId) (s : SD) | tu (s : SD) | cl (f : FuncId) (s : SD) | c (a b : SD) | e | no | ip (b : Nat) (q : List Stp)
@[reducible] def SD.X : SD → Type
  | .t ty _ => ty.den | .it _ | .nf | .e | .no | .ip _ _ => Unit | .sv _ => Nat × Nat | .sn _ => Nat | .fc _ s | .tu s | .cl _ s => s.X | .c a b => a.X × b.X
def SD.enc : (s : SD) → s.X → List D
  | .t ty rs, x => [.v ty x rs] | .it b, _ => [.it b] | .nf, _ => [.nf] | .sv b, x => [.sl b (some x.1) x.2] | .sn b, x => [.sl b none x]
  | .fc i s, x => match s.enc x with | [d] => [.fc i d] | _ => []
  | .tu s, x => [.tup (s.enc x)] | .cl f s, x => [.clo f (s.enc x)]
  | .c a b, x => a.enc x.1 ++ b.enc x.2 | .e, _ => [] | .no, _ => [.no] | .ip b q, _ => [.ip b q]
def SD.dec : (s : SD) → List D → Option (s.X × List D)
  | .t ty rs, .v u x rs' :: l => if rs = rs' then match cst u ty x with | some y => some (y, l) | none => none else none
  | .it b, .it b' :: l => if b = b' then some ((), l) else none
  | .nf, .nf :: l => some ((), l)
  | .no, .no :: l => some ((), l)
  | .ip b q, .ip b' q' :: l => if b = b' ∧ q = q' then some ((), l) else none
  | .sv b, .sl b' (some o) n :: l => if b = b' then some ((o, n), l) else none
  | .sn b, .sl b' none n :: l => if b = b' then some (n, l) else none
  | .fc i s, .fc j d :: l => if i = j then match s.dec [d] with | some (x, []) => some (x, l) | _ => none else none
  | .tu s, .tup ds :: l => match s.dec ds with | some (x, []) => some (x, l) | _ => none
  | .cl f s, .clo f' ds :: l => if f = f' then match s.dec ds with | some (x, []) => some (x, l) | _ => none else none
  | .c a b, l => (a.dec l).bind fun r => (b.dec r.2).map fun q => ((r.1, q.1), q.2)
  | .e, l => some ((), l)
  | _, _ => none
/-- Forms of blocks. -/
inductive SB where
  | o (ty : Ty) (rs : List Ref) | w (e : TypeId) (ty : Ty) (own : Bool) | it | de | c (a b : SB) | e
@[reducible] def SB.X : SB → Type
  | .o ty _ => ty.den | .w _ ty _ => List ty.den | .it => ByteArray × Nat | .de | .e => Unit | .c a b => a.X × b.X
def SB.enc : (s : SB) → s.X → List Blk
  | .o ty rs, x => [.o ty x rs] | .w i ty z, x => [.w i ty x z] | .it, x => [.it x.1 x.2] | .de, _ => [.de] | .c a b, x => a.enc x.1 ++ b.enc x.2 | .e, _ => []
def SB.dec : (s : SB) → List Blk → Option (s.X × List Blk)
  | .o ty rs, .o u x rs' :: l => if rs = rs' then match cst u ty x with | some y => some (y, l) | none => none else none
  | .w i ty z, .w i' u x z' :: l => if i = i' ∧ z = z' then match cst (.l 0 u) (.l 0 ty) x with | some y => some (y, l) | none => none else none
  | .it, .it s p :: l => some ((s, p), l)
  | .de, .de :: l => some ((), l)
  | .c a b, l => (a.dec l).bind fun r => (b.dec r.2).map fun q => ((r.1, q.1), q.2)
  | .e, l => some ((), l)
  | _, _ => none

/-- A state's form: which temporaries are kept, of how many; and the blocks. -/
structure SS where
  keep : List Nat
  s : SD
  b : SB
@[reducible] def SS.X (s : SS) : Type := s.s.X × s.b.X
def SS.dec (s : SS) (x : List D × List Blk) : Option s.X :=
  match s.s.dec x.1 with
  | some (x1, []) => match s.b.dec x.2 with | some (y, []) => some (x1, y) | _ => none
  | _ => none
/-- One of several forms. -/
@[reducible] def XS {α : Type} (X : α → Type) : List α → Type
  | [] => Empty | [e] => X e | e :: f :: l => X e ⊕ XS X (f :: l)

/-- What a function does: the forms of its arguments and of the blocks that it is handed; of its answer, of those blocks then, and of the new ones: one of several. -/
structure RS where
  r : SD
  hs : SB
  ns : SB
@[reducible] def RS.X (s : RS) : Type := s.r.X × s.hs.X × s.ns.X
structure Cf where
  a : SD
  b : SB
  r : List RS
  f : a.X × b.X → Option (XS RS.X r)
def RS.enc (s : RS) (x : s.X) : D × List Blk × List Blk := (match s.r.enc x.1 with | [d] => d | _ => .no, s.hs.enc x.2.1, s.ns.enc x.2.2)
def RS.dec (s : RS) (x : D × List Blk × List Blk) : Option s.X :=
  match s.r.dec [x.1] with
  | some (x1, []) => match s.hs.dec x.2.1 with
    | some (x2, []) => match s.ns.dec x.2.2 with | some (x3, []) => some (x1, x2, x3) | _ => none
    | _ => none
  | _ => none
def encR : (l : List RS) → XS RS.X l → D × List Blk × List Blk
  | [], x => x.elim | [e], x => e.enc x | e :: f :: l, x => match x with | .inl y => e.enc y | .inr y => encR (f :: l) y
def decG {α : Type} : (l : List RS) → XS RS.X l → (D × List Blk × List Blk → G α) → G α
  | [], _, _ => .bad | [e], x, k => k (e.enc x) | e :: f :: l, x, k => .sm x (fun y => k (e.enc y)) fun y => decG (f :: l) y k
def decR : (l : List RS) → D × List Blk × List Blk → Option (XS RS.X l)
  | [], _ => none | [e], x => e.dec x | e :: f :: l, x => match e.dec x with | some y => some (.inl y) | none => match decR (f :: l) x with | some y => some (.inr y) | none => none

/-- How a piece of code ends: 0 at its end, 1 by a return, k + 2 by leaving block k; and the state's form. -/
structure ES where
  k : Nat
  s : SS
@[reducible] def ES.X (s : ES) : Type := s.s.X
def exk : Exit → Option Nat | .normal => some 0 | .ret => some 1 | .exit i => some (i + 2) | _ => none
def kex : Nat → Exit | 0 => .normal | 1 => .ret | k + 2 => .exit k
/-- What is made alike ahead of it: an empty row out of none; a part of a row out of all of it. -/
inductive PR where | row (i : Nat) (e : TypeId) (t : Ty) | view (i : Nat)
/-- What a loop does, or the code from a place on: the form of its beginning, those of its ends. -/
structure Cs where
  nb : Nat
  pr : List PR
  s : SS
  x : List ES
  f : s.X → Option (XS ES.X x)

structure Env where
  ti : TypeId → Option TI
  itf : TypeId → Bool
  m : TypeId → String → Option FuncId
  c : FuncId → List Cf
  w : Nat → Option (List Nat)
  j : Nat → List Cs
  lp : Nat → List Cs

def Env.ty (E : Env) (t : TypeId) : Option Ty := (E.ti t).map (·.ty)

abbrev Eff := D × List (Nat × Blk) × Nat

def G.bind {α R : Type} : G α → (α → Option R) → Option R
  | .one x, k => k x | .bad, _ => none | .br c x y, k => Br c (x.bind k) (y.bind k)
  | .call o f, k => ob o fun y => (f y).bind k | .sm x f g, k => AM.sm x (fun a => (f a).bind k) (fun b => (g b).bind k)

def ogd {α : Type} : Option α → (α → G Eff) → G Eff | some x, k => k x | none, _ => .bad
/-- A value alone. -/
def val (d : D) (nx : Nat) : G Eff := .one (d, [], nx)
def chk (c : Bool) (g : G Eff) : G Eff := .br c g .bad
def ofo (d : Option D) (nx : Nat) : G Eff := match d with | some d => val d nx | none => .bad

/-! ### Parts of data -/
def drp {α : Type} : Option Nat → List α → List α | none, l => l | some k, l => l.drop k
def rowAt (k : IntKind) (x : List Int) (off : Option Nat) : Option Nat → D
  | none => .v (.i k) (x.getD (off.getD 0) 0) []
  | some m => .v (.a k m) ((drp off x).take m) []
/-- What stands at a path. -/
def look : (t : Ty) → t.den → List Ref → List Stp → Option D
  | t, x, rs, [] => some (.v t x rs)
  | .p a _, x, rs, .f 0 :: q => look a x.1 (rs.take a.nr) q
  | .p a b, x, rs, .f (j + 1) :: q => look b x.2 (rs.drop a.nr) (.f j :: q)
  | .l _ t, x, _, .i k :: q => look t (x.getD k (dfl t)) [] q
  | .a k _, x, _, [.o off m] => some (rowAt k x off m)
  | _, _, _, _ => none
/-- .. put in its place. -/
def upd : (t : Ty) → t.den → List Ref → List Stp → D → Option (t.den × List Ref)
  | t, _, _, [], d => match d with | .v u y rs => (cst u t y).map fun y => (y, rs) | _ => none
  | .p a b, x, rs, .f 0 :: q, d => (upd a x.1 (rs.take a.nr) q d).map fun r => ((r.1, x.2), r.2 ++ rs.drop a.nr)
  | .p a b, x, rs, .f (j + 1) :: q, d => (upd b x.2 (rs.drop a.nr) (.f j :: q) d).map fun r => ((x.1, r.1), rs.take a.nr ++ r.2)
  | .l _ t, x, rs, .i k :: q, d => (upd t (x.getD k (dfl t)) [] q d).map fun r => (x.set k r.1, rs)
  | .a k _, x, rs, [.o off none], d => match d with | .v (.i k') y _ => if k = k' then some (x.set (off.getD 0) y, rs) else none | _ => none
  | .a k n, x, rs, [.o off (some m)], d => match d with
    | .v (.a k' m') y _ => if k = k' ∧ m = m' then some (x.take (off.getD 0) ++ y ++ x.drop (off.getD 0 + m), rs) else none | _ => none
  | _, _, _, _, _ => none

/-- Where a pointer leads. -/
def ptr (h : Nat → Blk) : D → Option (Nat × List Stp)
  | .v (.r .p) _ [.p b] => match h b with | .o _ _ _ | .sh _ => some (b, []) | _ => none
  | .ip b q => match h b with | .o _ _ _ => some (b, q) | .w _ _ _ _ => some (b, q) | .sh _ => some (b, q) | _ => none
  | _ => none
/-- What kind stands at a path. -/
def tyAt : Ty → List Stp → Option Ty
  | t, [] => some t
  | .p a _, .f 0 :: q => tyAt a q
  | .p _ b, .f (j + 1) :: q => tyAt b (.f j :: q)
  | .l _ t, .i _ :: q => tyAt t q
  | .a k _, [.o _ none] => some (.i k)
  | .a k _, [.o _ (some m)] => some (.a k m)
  | _, _ => none
def tyB : Blk → List Stp → Option Ty
  | .o t _ _, q => tyAt t q | .w _ t _ _, .i _ :: q => tyAt t q | .sh t, q => tyAt t q | _, _ => none
/-- A slice: its block, from where, how long. -/
def H (h : List Blk) (b : Nat) : Blk := h.getD b .de
def rlen : Blk → Nat | .w _ _ l _ => l.length | _ => 0
def slc (h : Nat → Blk) : D → Option (Nat × Option Nat × Nat)
  | .v (.r .s) _ [.w b] => some (b, none, rlen (h b)) | .sl b off n => (match h b with | .w _ _ _ _ => some (b, off, n) | _ => none) | _ => none
def rowTy : Blk → Option Ty | .w _ t _ _ => some t | _ => none
def addo : Option Nat → Nat → Nat | none, n => n | some k, n => k + n
/-- Literals only. -/
def addl : Option Nat → Nat → Option Nat | o, 0 => o | none, n => some n | some k, n => some (k + n)

def lookB : Blk → List Stp → Option D
  | .o t x rs, q => look t x rs q
  | .w _ t l _, .i k :: q => look t (l.getD k (dfl t)) [] q
  | _, _ => none
def updB : Blk → List Stp → D → Option Blk
  | .o t x rs, q, v => (upd t x rs q v).map fun r => .o t r.1 r.2
  | .w e t l true, .i k :: q, v => (upd t (l.getD k (dfl t)) [] q v).map fun r => .w e t (l.set k r.1) true
  | _, _, _ => none
def loadD (h : Nat → Blk) (d : D) : Option D :=
  match ptr h d with
  | some (b, q) => lookB (h b) q
  | none => none
def storeD (h : Nat → Blk) (d v : D) : Option (List (Nat × Blk)) :=
  match ptr h d with
  | some (b, q) => (updB (h b) q v).map fun k => [(b, k)]
  | none => none

def lastO (q : List Stp) : Option (Option Nat) := match q.getLast? with | some (.o o _) => some o | _ => none
def intoA (q : List Stp) (o' : Option Nat) (m : Option Nat) : List Stp := match lastO q with | some _ => q.dropLast ++ [.o o' m] | none => q ++ [.o o' m]
def fct : Ty → Nat | .p _ b => fct b + 1 | _ => 0
/-- The path of a field. -/
def fldq (i : TI) (j : Nat) (q : List Stp) : Option (List Stp) :=
  match i.ty with
  | .p _ _ => if j < fct i.ty then some (q ++ [.f j]) else none
  | .a _ _ => match i.fs[j]? with
    | some (o, m) => some (intoA q (addl ((lastO q).getD none) o) m)
    | none => none
  | _ => none
def esc (i : TI) (k : Nat) : Nat := match i.el with | none => k | some _ => k * i.esz
/-- .. of an element of an array. -/
def elq (i : TI) (k : Nat) (q : List Stp) : Option (List Stp) :=
  match i.ty with
  | .l _ _ => some (q ++ [.i k])
  | .a _ _ => some (intoA q (some (addo ((lastO q).getD none) (esc i k))) i.el)
  | _ => none

/-! ### Operators -/
def eqv : (t : Ty) → t.den → t.den → Bool
  | .i _, x, y => eq x y | .b, x, y => x == y | .s, x, y => seq x y | .a _ _, x, y => List.beq x y | .r _, _, _ => true | .u, _, _ => true
  | .p a .u, x, y => eqv a x.1 y.1
  | .p a b, x, y => eqv a x.1 y.1 && eqv b x.2 y.2
  | .l _ t, x, y => (x.zip y).all fun z => eqv t z.1 z.2
def nilq : Ref → Ref → Option Bool
  | .np, .np => some true
  | .np, .p _ | .p _, .np => some false
  | _, _ => none
def binI (op : BinOp) (k : IntKind) (a b : Int) : G D :=
  match op with
  | .add => .one (.v (.i k) (wa k a b) []) | .sub => .one (.v (.i k) (ws k a b) []) | .mul => .one (.v (.i k) (wm k a b) [])
  | .quo => .br (eq b 0) .bad (.one (.v (.i k) (qu k a b) [])) | .rem => .br (eq b 0) .bad (.one (.v (.i k) (rm a b) []))
  | .and => .one (.v (.i k) (ban k a b) []) | .or => .one (.v (.i k) (bor k a b) []) | .xor => .one (.v (.i k) (bxo k a b) []) | .andNot => .one (.v (.i k) (bno k a b) [])
  | .eql => .one (.v .b (eq a b) []) | .neq => .one (.v .b (!eq a b) []) | .lss => .one (.v .b (lt a b) []) | .leq => .one (.v .b (le a b) [])
  | .gtr => .one (.v .b (lt b a) []) | .geq => .one (.v .b (le b a) [])
  | .shl => .br (lt b 0) .bad (.one (.v (.i k) (sh k a b) [])) | .shr => .br (lt b 0) .bad (.one (.v (.i k) (shr k a b) []))
def small (n : Int) : Bool := match n with | .ofNat k => Nat.ble k 9223372036854775807 | .negSucc _ => true
def isDe : Blk → Bool | .de => true | _ => false
def alr (h : Nat → Blk) (rs : List Ref) : Bool := rs.all fun r => match r with | .p b => !isDe (h b) | _ => true
def cmpD (op : BinOp) (c : Bool) : G D := match op with | .eql => .one (.v .b c []) | .neq => .one (.v .b (!c) []) | _ => .bad
def binD (E : Env) (h : Nat → Blk) (op : BinOp) (t : TypeId) (cc : Bool) (x y : D) : G D :=
  match x, y with
  | .v (.i k) a _, .v (.i k') b _ => match op with
    | .shl | .shr => binI op k a b
    | _ => if k = k' then binI op k a b else .bad
  | .v .s a _, .v .s b _ => match op with
    | .add => .br (small (len a + len b)) (.one (.v .s (cat a b) [])) .bad
    | _ => cmpD op (seq a b)
  | .v .b a _, .v .b b _ => if E.ty t = some .b then cmpD op (a == b) else .bad
  | .v (.r .p) _ [r], .v (.r .p) _ [r'] => if E.ty t = some (.r .p) ∧ alr h [r, r'] = true then (match nilq r r' with | some c => cmpD op c | none => .bad) else .bad
  | .v u z [], .v u' z' [] => if u.ag = true ∧ u.nr = 0 ∧ E.ty t = some u then (match cst u' u z' with | some y => cmpD op (eqv u z y) | none => .bad) else .bad
  | .nf, .nf => if E.itf t = true ∧ cc = true then cmpD op true else .bad
  | .fc _ _, .nf | .nf, .fc _ _ => if E.itf t = true then cmpD op false else .bad
  | _, _ => .bad
def unD (op : UnOp) (x : D) : Option D :=
  match op, x with
  | .neg, .v (.i k) a _ => some (.v (.i k) (ws k 0 a) []) | .not, .v .b a _ => some (.v .b (!a) [])
  | .xor, .v (.i k) a _ => some (.v (.i k) (bxo k (if k.signed then -1 else k.max) a) [])
  | _, _ => none
def pickD (c : Bool) (x y : D) : Option D :=
  match x, y with
  | .v (.i k) a [], .v (.i k') b [] => if k = k' then some (.v (.i k) (bif c then a else b) []) else none
  | .v .b a [], .v .b b [] => some (.v .b (bif c then a else b) [])
  | .v .s a [], .v .s b [] => some (.v .s (bif c then a else b) [])
  | x, .tup [] => bif c then some x else none
  | .tup [], y => bif c then none else some y
  | _, _ => none

/-! ### Numbers of blocks -/
def Ref.ren (g : Nat → Option Nat) : Ref → Option Ref
  | .p b => (g b).map .p | .w b => (g b).map .w | .m b => (g b).map .m | r => some r
def renRs (g : Nat → Option Nat) : List Ref → Option (List Ref)
  | [] => some [] | r :: l => (r.ren g).bind fun r => (renRs g l).map (r :: ·)
mutual
def D.ren (g : Nat → Option Nat) : D → Option D
  | .v t x rs => (renRs g rs).map (.v t x ·)
  | .no => some .no | .nf => some .nf
  | .tup l => (renL g l).map .tup
  | .fc t d => (d.ren g).map (.fc t ·)
  | .sl b o n => (g b).map (.sl · o n)
  | .ip b q => (g b).map (.ip · q)
  | .clo f c => (renL g c).map (.clo f ·)
  | .it b => (g b).map .it
def renL (g : Nat → Option Nat) : List D → Option (List D)
  | [] => some [] | d :: l => (d.ren g).bind fun d => (renL g l).map (d :: ·)
end
def Blk.ren (g : Nat → Option Nat) : Blk → Option Blk
  | .o t x rs => (renRs g rs).map (.o t x ·) | b => some b
def Ref.blk : Ref → List Nat | .p b | .w b | .m b => [b] | _ => []
mutual
def D.blk : D → List Nat
  | .v _ _ rs => rs.flatMap Ref.blk | .tup l => blkL l | .fc _ d => d.blk | .sl b _ _ | .ip b _ | .it b => [b] | .clo _ c => blkL c | _ => []
def blkL : List D → List Nat | [] => [] | d :: l => d.blk ++ blkL l
end
def Blk.blk : Blk → List Nat | .o _ _ rs => rs.flatMap Ref.blk | _ => []
/-- The blocks that can be come to, in the order in which they are met. -/
def reach (h : Nat → Blk) : Nat → List Nat → List Nat → List Nat
  | 0, _, acc => acc.reverse | _, [], acc => acc.reverse
  | n + 1, b :: l, acc => if acc.contains b then reach h n l acc else reach h n ((h b).blk ++ l) (b :: acc)
def idx (l : List Nat) (b : Nat) : Option Nat := go l 0
  where go : List Nat → Nat → Option Nat | [], _ => none | c :: l, i => if c = b then some i else go l (i + 1)
def sequence {α : Type} : List (Option α) → Option (List α) | [] => some [] | none :: _ => none | some x :: l => (sequence l).map (x :: ·)

/-- How arguments are handed on: slices by what stands in them (their block is read alone), all else with the blocks that it leads to. -/
structure Pass where
  args : List D
  blks : List Blk
  own : List (Nat × Nat)     -- handed number, own number
  ro : List Nat
def passSl (h : Nat → Blk) (b : Nat) (off : Option Nat) (n : Option Nat) : Option Blk :=
  match h b with
  | .w e t l _ => some (.w e t (match n with | none => l | some n => (drp off l).take n) false) | _ => none
/-- A variable that is read alone: a row of one. -/
def passPo (h : Nat → Blk) (b : Nat) : Option Blk := match h b with | .o t x [] => if t.nr = 0 ∧ 0 < t.sz then some (.w 0 t [x] false) else none | _ => none
def passIp (h : Nat → Blk) (b : Nat) (q : List Stp) : Option (Blk × List Stp) :=
  match h b with | .o t x [] => if t.nr = 0 ∧ 0 < t.sz then some (.w 0 t [x] false, .i 0 :: q) else none | .w e t l _ => some (.w e t l false, q) | _ => none
/-- What an argument shows, handed on to be read alone: the block, the argument by the block's number, the own block. -/
def viewD (ro : Bool) (h : Nat → Blk) : D → Option (Blk × (Nat → D) × Nat)
  | .v (.r .s) _ [.w b] => (passSl h b none none).map fun k => (k, (fun j => .v (.r .s) () [.w j]), b)
  | .sl b off m => (passSl h b off (some m)).map fun k => (k, (fun j => .v (.r .s) () [.w j]), b)
  | .v (.r .p) _ [.p b] => if ro then (passPo h b).map fun k => (k, (fun j => .ip j [.i 0]), b) else none
  | .ip b q => if ro then (passIp h b q).map fun p => (p.1, (fun j => .ip j p.2), b) else none
  | _ => none
/-- The views first. -/
def slices (ro : Bool) (h : Nat → Blk) : List D → Nat → Option (List (Option D) × List Blk × List Nat)
  | [], _ => some ([], [], [])
  | d :: l, n => match viewD ro h d with
    | some (k, f, b) => (slices ro h l (n + 1)).map fun r => (some (f n) :: r.1, k :: r.2.1, b :: r.2.2)
    | none => (slices ro h l n).map fun r => (none :: r.1, r.2.1, r.2.2)
def rest : List D → List (Option D) → List D
  | d :: l, none :: m => d :: rest l m | _ :: l, some _ :: m => rest l m | _, _ => []
def handD (g : Nat → Option Nat) : List D → List (Option D) → Option (List D)
  | d :: l, none :: m => (d.ren g).bind fun d => (handD g l m).map (d :: ·)
  | _ :: l, some d :: m => (handD g l m).map (d :: ·)
  | _, _ => some []
def pass (ro : Bool) (h : Nat → Blk) (as : List D) : Option Pass :=
  match slices ro h as 0 with
  | some (ms, ks, ro) =>
    let s := ks.length
    let os := reach h 64 (blkL (rest as ms)) []
    if os.any ro.contains then none else
    let g := fun b => (idx os b).map (s + ·)
    match handD g as ms, sequence (os.map fun b => (h b).ren g) with
    | some as', some bs => some ⟨as', ks ++ bs, (os.zipIdx).map fun p => (s + p.2, p.1), ro⟩
    | _, _ => none
  | none => none
/-- What is known of the function for such arguments. -/
def pickC : List Cf → List D → List Blk → Option ((c : Cf) × (c.a.X × c.b.X))
  | [], _, _ => none
  | c :: l, as, bs => match c.a.dec as with
    | some (x, []) => (match c.b.dec bs with | some (y, []) => some ⟨c, x, y⟩ | _ => pickC l as bs)
    | _ => pickC l as bs
/-- A call by what is known of the function. -/
def callP (E : Env) (nx : Nat) (p : Pass) : ((c : Cf) × (c.a.X × c.b.X)) → G Eff
  | ⟨c, x⟩ => if p.own.all (fun q => decide (q.2 < nx)) then .call (c.f x) fun y =>
      let m := p.blks.length
      decG c.r y fun r =>
      let g := fun b => if b < m then (p.own.find? (·.1 = b)).map (·.2) else if b - m < r.2.2.length then some (nx + (b - m)) else none
      match r.1.ren g, sequence (p.own.map fun q => ((r.2.1.getD q.1 .de).ren g).map fun k => (q.2, k)), sequence (r.2.2.zipIdx.map fun k => (k.1.ren g).map fun b => (nx + k.2, b)) with
      | some d, some us, some ns => .one (d, us ++ ns, nx + r.2.2.length)
      | _, _, _ => .bad
      else .bad
def tryC (E : Env) (ro : Bool) (h : Nat → Blk) (f : FuncId) (as : List D) : Option (Pass × ((c : Cf) × (c.a.X × c.b.X))) :=
  match pass ro h as with | some p => (match pickC (E.c f) p.args p.blks with | some c => some (p, c) | none => none) | none => none
def callD (E : Env) (nx : Nat) (h : Nat → Blk) (f : FuncId) (as : List D) : G Eff :=
  match tryC E true h f as with
  | some (p, c) => callP E nx p c
  | none => match tryC E false h f as with | some (p, c) => callP E nx p c | none => .bad
end Go.AM
end
/- The abstract machine: the operations, regions and code. Definitions alone. -/
section
set_option linter.constructorNameAsVariable false
set_option linter.unusedVariables false
namespace Go.AM

def addD (o : Option Nat) (k : Nat) : Nat := addo o k
/-- Bounds of a slicing: low, high. -/
def bound (d : Option D) (dflt : Nat) (k : Option Int → Nat → G Eff) : G Eff :=
  match d with
  | none => k none dflt
  | some (.v (.i _) a _) => k (some a) a.toNat
  | _ => .bad
/-- How a slice's place moves: none: it stands at the beginning. -/
def offD (o : Option Nat) (lo : Option Int) (l : Nat) : Option Nat := match lo with | none => o | some _ => some (addo o l)
def sliceD (E : Env) (nx : Nat) (h : Nat → Blk) (t : TypeId) (x : D) (lo hi : Option D) : G Eff :=
  match x with
  | .v .s s _ => if E.ty t = some .s then bound hi s.size fun hi h' => bound lo 0 fun lo l =>
      let ok := match lo, hi with
        | none, none => true | none, some b => inq b (len s) | some a, none => inq a (len s) | some a, some b => inq b (len s) && inq a b
      chk ok (val (.v .s (s.extract l h') []) nx) else .bad
  | _ => match slc h x, E.ti t with
    | some (b, off, n), some I => if I.ty = .r .s ∧ rowTy (h b) = some I.et then bound hi n fun hi h' => bound lo 0 fun lo l =>
      let ok := match lo, hi with
        | none, none => true | none, some b => inq b n | some a, none => inq a n | some a, some b => inq b n && inq a b
      chk ok (val (.sl b (offD off lo l) (h' - l)) nx) else .bad
    | _, _ => .bad
def indexD (E : Env) (nx : Nat) (t : TypeId) (x i : D) : G Eff :=
  match i with
  | .v (.i _) i _ => match x with
    | .v .s s _ => if E.ty t = some .s then chk (inr i (len s)) (val (.v (.i .u8) (byt s i) []) nx) else .bad
    | .v (.l n u) x _ => if E.ty t = some (.l n u) then chk (inr i n) (val (.v u (x.getD i.toNat (dfl u)) []) nx) else .bad
    | .v (.a k n) x _ => match E.ti t with
      | some I => if I.ty = .a k n then chk (inr i I.n) (val (rowAt k x (some (esc I i.toNat)) I.el) nx) else .bad
      | none => .bad
    | _ => .bad
  | _ => .bad
def indexAddrD (E : Env) (nx : Nat) (h : Nat → Blk) (t : TypeId) (x i : D) : G Eff :=
  match i with
  | .v (.i _) i _ => match slc h x with
    | some (b, off, n) => (match E.ti t with
      | some I => if I.ty = .r .s ∧ rowTy (h b) = some I.et then chk (inr i n) (val (.ip b [.i (addo off i.toNat)]) nx) else .bad
      | none => .bad)
    | none => match ptr h x, E.ti t with
      | some (b, q), some I => if tyB (h b) q = some I.ty then (match elq I i.toNat q with
        | some q => chk (inr i I.n) (val (.ip b q) nx)
        | none => .bad) else .bad
      | _, _ => .bad
  | _ => .bad
def fldD (E : Env) (t : TypeId) (x : D) (j : Nat) : Option D :=
  match x with
  | .v (.p a b) y rs => if E.ty t = some (.p a b) then look (.p a b) y rs [.f j] else none
  | .v (.a k n) y _ => match E.ti t with
    | some I => if I.ty = .a k n then (match I.fs[j]? with | some (o, m) => some (rowAt k y (addl none o) m) | none => none) else none
    | none => none
  | _ => none
/-- A struct or an array out of its parts. -/
def putPart (I : TI) (d : D) (j : Nat) (p : D) : Option D :=
  match d with
  | .v t x rs => match fldq I j [] with
    | some q => (upd t x rs q p).map fun r => .v t r.1 r.2
    | none => if j < I.n then (match elq I j [] with
      | some q => (upd t x rs q p).map fun r => .v t r.1 r.2
      | none => none) else none
  | _ => none
def buildD (E : Env) (t : TypeId) (ps : List (Nat × D)) : Option D :=
  match E.ti t with
  | some I => if I.ty.ag = true then ps.foldl (fun d p => match d with | some d => putPart I d p.1 p.2 | none => none) (some (.v I.ty (dfl I.ty) (drs I.ty))) else none
  | none => none
/-- The elements of a slice that is written out: all of them, in order. -/
def rowOf (t : Ty) : List (Nat × D) → Nat → Option (List t.den)
  | [], _ => some []
  | (j, .v u x []) :: ps, k => if j = k then (match cst u t x with | some x => (rowOf t ps (k + 1)).map (x :: ·) | none => none) else none
  | _, _ => none
def bytesOf (l : List Int) : ByteArray := l.foldl (fun s n => s.push (UInt8.ofNat n.toNat)) ByteArray.empty
def runesOf (l : List Int) : ByteArray := l.foldl (fun s n => s ++ Utf8.encode n) ByteArray.empty
/-- What a slice holds. -/
def heldBy (h : Nat → Blk) (x : D) : Option ((t : Ty) × List t.den) :=
  match x with
  | .v (.r .s) _ [.w b] => match h b with | .w _ t l _ => some ⟨t, l⟩ | _ => none
  | .sl b off n => match h b with | .w _ t l _ => some ⟨t, (drp off l).take n⟩ | _ => none
  | .v (.r .s) _ [.ns] => none
  | _ => none
def convD (E : Env) (h : Nat → Blk) (src dst : TypeId) (x : D) : Option D :=
  match E.ti src, E.ti dst with
  | some I, some J => match J.ty, x with
    | .i k, .v (.i _) a _ => some (.v (.i k) (wr k a) [])
    | .s, .v (.i _) a _ => (match I.ty with | .i _ => some (.v .s (Utf8.encode a) []) | _ => none)
    | .s, .v .s a _ => some (.v .s a [])
    | .s, y => (match I.ty, heldBy h y with
      | .r .s, some ⟨.i .u8, l⟩ => if E.ty I.e = some (.i .u8) ∧ I.et = .i .u8 then some (.v .s (bytesOf l) []) else none
      | .r .s, some ⟨.i .i32, l⟩ => if E.ty I.e = some (.i .i32) ∧ I.et = .i .i32 then some (.v .s (runesOf l) []) else none
      | _, _ => none)
    | _, _ => none
  | _, _ => none
@[irreducible] def runeD (s : ByteArray) (pos : Nat) : Int := ((Utf8.decode s pos).1 : Int)
@[irreducible] def widD (s : ByteArray) (pos : Nat) : Nat := pos + (Utf8.decode s pos).2
@[irreducible] def room (n : Int) : Bool := match n with | .ofNat k => Nat.ble k 8589934592 | .negSucc _ => true
def appendD (E : Env) (nx : Nat) (t0 : TypeId) (h : Nat → Blk) (x y : D) : G Eff :=
  match E.ti t0 with
  | none => .bad
  | some I => if I.ty = .r .s then (match heldBy h y with
    | none => .bad
    | some ⟨u, m⟩ => match cst (.l 0 u) (.l 0 I.et) m with
      | none => .bad
      | some m => match x with
        | .v (.r .s) _ [.w b] => (match h b with
          | .w e t l true => if e = I.e then (match cst (.l 0 t) (.l 0 I.et) l with
            | some l => chk (room ((List.length (α := I.et.den) l : Int) + (List.length (α := I.et.den) m : Int))) (.one (.v (.r .s) () [.w nx], [(nx, .w I.e I.et (List.append (α := I.et.den) l m) true), (b, .de)], nx + 1))
            | none => .bad) else .bad
          | _ => .bad)
        | .v (.r .s) _ [.ns] => chk (room ((List.length (α := I.et.den) m : Int))) (.one (.v (.r .s) () [.w nx], [(nx, .w I.e I.et m true)], nx + 1))
        | _ => .bad) else .bad
def minmax (b : Builtin) (x y : D) : Option D :=
  match b, x, y with
  | .min, .v (.i k) a _, .v (.i k') c _ => if k = k' then some (.v (.i k) (bif lt c a then c else a) []) else none
  | .max, .v (.i k) a _, .v (.i k') c _ => if k = k' then some (.v (.i k) (bif lt a c then c else a) []) else none
  | _, _, _ => none
def lenD (E : Env) (nx : Nat) (h : Nat → Blk) (t0 : TypeId) (x : D) : G Eff :=
  match E.ti t0 with
  | none => .bad
  | some I => match I.ty with
    | .s => (match x with | .v .s s _ => val (.v (.i .i64) (len s) []) nx | _ => .bad)
    | .r .s => (match x with
      | .v (.r .s) _ [.ns] => val (.v (.i .i64) (0 : Int) []) nx
      | x => match slc h x with | some (b, _, n) => if (rowTy (h b)).isSome then val (.v (.i .i64) (n : Int) []) nx else .bad | none => .bad)
    | .a _ _ | .l _ _ => if I.n = 0 then .bad else val (.v (.i .i64) (I.n : Int) []) nx
    | _ => .bad
def okT (b : Builtin) (ts : Array TypeId) : Bool := match b with | .append => ts.size == 2 && ts[0]? == ts[1]? | .len => ts.size != 0 | _ => true
def builtinD (E : Env) (nx : Nat) (h : Nat → Blk) (b : Builtin) (t0 : TypeId) (as : List D) : G Eff :=
  match b, as with
  | .len, [x] => lenD E nx h t0 x
  | .append, [x, y] => appendD E nx t0 h x y
  | .min, [x, y] => ofo (minmax .min x y) nx
  | .max, [x, y] => ofo (minmax .max x y) nx
  | _, _ => .bad
def G.val (nx : Nat) : G D → G Eff
  | .one d => AM.val d nx | .br c a b => .br c (a.val nx) (b.val nx) | _ => .bad
def zeroD (I : TI) : D := .v I.ty (dfl I.ty) (drs I.ty)

def isConst : Operand → Bool | .const _ => true | _ => false
def exo (E : Env) (nx : Nat) (ρ : Operand → D) (h : Nat → Blk) (o : Oper) : G Eff :=
  match o.op with
  | .move x | .assign x => val (ρ x) nx
  | .pick c a b => match ρ c with | .v .b c _ => ofo (pickD c (ρ a) (ρ b)) nx | _ => .bad
  | .alloc t => match E.ti t with | some I => .one (.v (.r .p) () [.p nx], [(nx, .o I.ty (dfl I.ty) (drs I.ty))], nx + 1) | none => .bad
  | .box t x => match ρ x with | .v u y rs => if E.ty t = some u then .one (.v (.r .p) () [.p nx], [(nx, .o u y rs)], nx + 1) else .bad | _ => .bad
  | .build t ps => ofo (buildD E t (ps.toList.map fun p => (p.1, ρ p.2))) nx
  | .buildSlice t n ps => match E.ti t with
    | some I => if I.ty = .r .s ∧ n = ps.size ∧ n * I.et.sz ≤ 4096 then (match rowOf I.et (ps.toList.map fun p => (p.1, ρ p.2)) 0 with
      | some l => .one (.v (.r .s) () [.w nx], [(nx, .w I.e I.et l true)], nx + 1) | none => .bad) else .bad
    | none => .bad
  | .load t a => match loadD h (ρ a) with | some (.v u y rs) => if E.ty t = some u then val (.v u y rs) nx else .bad | _ => .bad
  | .store t a x => match ρ x with
    | .v u y rs => if E.ty t = some u then (match storeD h (ρ a) (.v u y rs) with | some us => .one (.no, us, nx) | none => .bad) else .bad
    | _ => .bad
  | .nilCheck x => match ptr h (ρ x) with | some _ => val (ρ x) nx | none => .bad
  | .binOp op t x y _ => (binD E h op t (isConst x || isConst y) (ρ x) (ρ y)).val nx
  | .unOp op _ x => ofo (unD op (ρ x)) nx
  | .convert s d x => ofo (convD E h s d (ρ x)) nx
  | .makeInterface t x => if (E.ti t).isSome then val (.fc t (ρ x)) nx else .bad
  | .makeFunc (.func f) fs cs => if fs.isEmpty then val (.clo f (cs.toList.map ρ)) nx else .bad
  | .slice t x lo hi none => sliceD E nx h t (ρ x) (lo.map ρ) (hi.map ρ)
  | .fieldAddr t x j => match ptr h (ρ x), E.ti t with
    | some (b, q), some I => if tyB (h b) q = some I.ty then (match fldq I j q with | some q => val (.ip b q) nx | none => .bad) else .bad
    | _, _ => .bad
  | .field t x j => ofo (fldD E t (ρ x) j) nx
  | .indexAddr t x i => indexAddrD E nx h t (ρ x) (ρ i)
  | .index t x i => indexD E nx t (ρ x) (ρ i)
  | .range t x => match ρ x with | .v .s s _ => if E.ty t = some .s then .one (.it nx, [(nx, .it s 0)], nx + 1) else .bad | _ => .bad
  | .next x true => match ρ x with
    | .it b => match h b with
      | .it s pos => .br (lt pos (len s)) (.one (.tup [.v .b true [], .v (.i .i64) (pos : Int) [], .v (.i .i32) (runeD s pos) []], [(b, .it s (widD s pos))], nx)) (val (.tup [.v .b false []]) nx)
      | _ => .bad
    | _ => .bad
  | .extract x j => match ρ x with | .tup l => (match l[j]? with | some d => val d nx | none => .bad) | _ => .bad
  | .typeAssert x _ t ok => match ρ x, E.ti t with
    | .fc u d, some I => if u = t then val (if ok then .tup [d, .v .b true []] else d) nx else if ok then val (.tup [zeroD I, .v .b false []]) nx else .bad
    | .nf, some I => if ok then val (.tup [zeroD I, .v .b false []]) nx else .bad
    | _, _ => .bad
  | .call c => match c.callee with
    | .builtin b => if okT b c.argTypes = true then builtinD E nx h b (c.argTypes.getD 0 0) (c.args.toList.map ρ) else .bad
    | .value f => match ρ f with | .clo f cs => callD E nx h f (c.args.toList.map ρ ++ cs) | _ => .bad
    | .invoke r s => match ρ r with | .fc t d => (match E.m t s with | some f => callD E nx h f (d :: c.args.toList.map ρ) | none => .bad) | _ => .bad
  | _ => .bad

/-! ### Regions -/
def St.put (st : St) (dst : Option Tmp) (d : D) : St := match dst with | some i => { st with t := st.t.set i d } | none => st
def setH : List Blk → Nat → Blk → List Blk
  | [], 0, k => [k] | [], n + 1, k => .de :: setH [] n k
  | _ :: l, 0, k => k :: l | b :: l, n + 1, k => b :: setH l n k
def St.app (st : St) (dst : Option Tmp) (e : Eff) : St := { (st.put dst e.1) with h := e.2.1.foldl (fun h u => setH h u.1 u.2) st.h }

/-- The blocks that an operation leaves are numbered below the next one. -/
def okE (nx : Nat) (e : Eff) : Bool := e.2.1.all (fun u => Nat.blt u.1 e.2.2) && Nat.ble nx e.2.2
def doOp {R : Type} (E : Env) (o : Oper) (nx : Nat) (st : St) (k : St → Nat → Option R) : Option R :=
  (exo E nx (ev (tf st.t)) (H st.h) o).bind fun e => bif okE nx e then k (st.app o.dst e) e.2.2 else none
def St.set (st : St) (t : Nat) (c : Bool) : St := ⟨st.t.set t (.v .b c []), st.h⟩
def runOps {R : Type} (E : Env) (ops : Array Oper) : List Oper → Nat → St → (St → Nat → Option R) → Option R
  | [], nx, st, k => k st nx
  | o :: os, nx, st, k =>
    match o.guard with
    | none => doOp E o nx st fun st nx => runOps E ops os nx st k
    | some (j, want) => match (ops[j]?).bind (·.dst) with
      | none => none
      | some t => match st.t.getD t .no with
        | .tup [] => runOps E ops os nx (st.put o.dst (.tup [])) k
        | .v .b c [] =>
          Br c (bif want then doOp E o nx (st.set t true) fun st nx => runOps E ops os nx st k else runOps E ops os nx ((st.set t true).put o.dst (.tup [])) k)
            (bif want then runOps E ops os nx ((st.set t false).put o.dst (.tup [])) k else doOp E o nx (st.set t false) fun st nx => runOps E ops os nx st k)
        | _ => none

def live (k : Blk) : Bool := match k with | .de => false | _ => true
def detR (h : Nat → Blk) : Ref → Bool | .np | .ns | .nm => true | .p b | .w b => live (h b) | .m _ => false
mutual
def det (h : Nat → Blk) : D → Bool
  | .v _ _ rs => rs.all (detR h) | .ip b _ | .it b => live (h b) | .tup l => detL h l | .fc _ d => det h d | .nf => true | .clo _ c => detL h c | .no | .sl _ _ _ => false
def detL (h : Nat → Blk) : List D → Bool | [] => true | d :: l => det h d && detL h l
end
/-- Leaves all blocks alone, and its value is determined. -/
def quietE (h : Nat → Blk) (nx : Nat) (e : Eff) : Bool := e.2.1.isEmpty && det h e.1 && Nat.beq e.2.2 nx
/-- An operation of a region that draws its order: as long as all are quiet they come in order; the first other one begins a chain. -/
def doQ {R : Type} (E : Env) (ops : Array Oper) (o : Oper) (os : List Oper) (i nx : Nat) (st : St) (k : St → Nat → Option R) (q : St → Option R) : Option R :=
  (exo E nx (ev (tf st.t)) (H st.h) o).bind fun e => bif quietE (H st.h) nx e then q (st.put o.dst e.1) else
    bif okE nx e && Region.lexTailB .any ops i then runOps E ops os e.2.2 (st.app o.dst e) k else none
def runDraw {R : Type} (E : Env) (ops : Array Oper) : List Oper → Nat → Nat → St → (St → Nat → Option R) → Option R
  | [], _, nx, st, k => bif Region.lexB .any ops then k st nx else none
  | o :: os, i, nx, st, k =>
    match o.guard with
    | none => doQ E ops o os i nx st k fun st => runDraw E ops os (i + 1) nx st k
    | some (j, want) => match (ops[j]?).bind (·.dst) with
      | none => none
      | some t => match st.t.getD t .no with
        | .tup [] => runDraw E ops os (i + 1) nx (st.put o.dst (.tup [])) k
        | .v .b c [] =>
          Br c (bif want then doQ E ops o os i nx (st.set t true) k fun st => runDraw E ops os (i + 1) nx st k else runDraw E ops os (i + 1) nx ((st.set t true).put o.dst (.tup [])) k)
            (bif want then runDraw E ops os (i + 1) nx ((st.set t false).put o.dst (.tup [])) k else doQ E ops o os i nx (st.set t false) k fun st => runDraw E ops os (i + 1) nx st k)
        | _ => none
/-- Operations that touch no memory but to read it, or yield an address. -/
def flt (o : Oper) : Bool := match o.op with
  | .move _ | .assign _ | .pick _ _ _ | .load _ _ | .nilCheck _ | .binOp _ _ _ _ _ | .unOp _ _ _ | .convert _ _ _ | .fieldAddr _ _ _ | .field _ _ _ | .indexAddr _ _ _ | .index _ _ _ | .extract _ _ | .slice _ _ _ _ _ | .makeInterface _ _ | .build _ _ => true
  | _ => false
def isMov (o : Oper) : Bool := match o.op with | .move _ | .assign _ => true | _ => false
def isSl (o : Oper) : Bool := match o.op with | .slice _ _ _ _ none => true | _ => false
def slv (h : Nat → Blk) : D → Bool | .sl b _ _ => live (h b) | _ => false
/-- The blocks, W but by their shapes. -/
def hB (W : List Nat) (h : List Blk) (b : Nat) : Blk := match H h b with
  | .o t x rs => if W.contains b then .sh t else .o t x rs
  | .w e t l own => if W.contains b then .de else .w e t l own
  | .sh t => .sh t | _ => .de
def keepU (W : List Nat) (h0 : List Blk) (u : Nat × Blk) : Bool := match H h0 u.1 with
  | .o t _ _ => W.contains u.1 && (match u.2 with | .o t' _ _ => decide (t' = t) | _ => false)
  | .w _ _ _ _ => W.contains u.1
  | .sh _ => false | _ => true
def guardR {R : Type} (ops : Array Oper) (o : Oper) (st : St) (take skip : St → Option R) : Option R :=
  match o.guard with
  | none => take st
  | some (j, want) => match (ops[j]?).bind (·.dst) with
    | none => none
    | some t => match st.t.getD t .no with
      | .tup [] => skip st
      | .v .b c [] => Br c (bif want then take (st.set t true) else skip (st.set t true)) (bif want then skip (st.set t false) else take (st.set t false))
      | _ => none
def fstF (ops : Array Oper) (l : Array Bool) : List Nat → Option (Nat × Oper)
  | [] => none
  | i :: r => match ops[i]? with | some o => (bif flt o && Region.free .any ops l i then some (i, o) else fstF ops l r) | none => fstF ops l r
/-- A region whose operations come in whatever order: those that float at once, the others one by one. -/
def runAny {R : Type} (E : Env) (ops : Array Oper) (W : List Nat) (h0 : List Blk) : Nat → Array Bool → Nat → St → (St → Nat → Option R) → Option R
  | 0, l, nx, st, k => match Region.ready .any ops l with | [] => k st nx | _ => none
  | f + 1, l, nx, st, k => match Region.ready .any ops l with
    | [] => k st nx
    | r => match fstF ops l r with
      | some (i, o) => guardR ops o st
        (fun st => (exo E nx (ev (tf st.t)) (hB W h0) o).bind fun e => bif e.2.1.isEmpty && Nat.beq e.2.2 nx && (isMov o || det (hB W h0) e.1 || isSl o && slv (hB W h0) e.1) then runAny E ops W h0 f (l.setIfInBounds i true) nx (st.put o.dst e.1) k else none)
        (fun st => runAny E ops W h0 f (l.setIfInBounds i true) nx (st.put o.dst (.tup [])) k)
      | none => match r with
        | [i] => match ops[i]? with
          | some o => guardR ops o st
            (fun st => (exo E nx (ev (tf st.t)) (H st.h) o).bind fun e => bif okE nx e && e.2.1.all (keepU W h0) then runAny E ops W h0 f (l.setIfInBounds i true) e.2.2 (st.app o.dst e) k else none)
            (fun st => runAny E ops W h0 f (l.setIfInBounds i true) nx (st.put o.dst (.tup [])) k)
          | none => none
        | _ => none
def low (nb : Nat) (st : St) : Bool := Nat.ble nb st.h.length

/-! ### Code -/
/-- The first blocks, and those that they and the numbers lead to. -/
def reachN (h : Nat → Blk) (nb : Nat) (l : List Nat) : List Nat := reach h 64 ((List.range nb).flatMap (fun b => (h b).blk) ++ l) (List.range nb).reverse
def firstId : Code → Option Nat
  | .region i _ _ => some i | .seq a _ => firstId a | _ => none
def place (n : Nat) : List Nat → List D → List D
  | i :: l, d :: m => (place n l m).set i d | _, _ => List.replicate n .no
/-- What is kept of a state: some temporaries, and the blocks that they lead to behind the first ones, numbered anew. -/
def canon (keep : List Nat) (nb : Nat) (st : St) : Option (List D × List Blk) :=
  let ds := keep.map fun i => st.t.getD i .no
  let os := reachN (H st.h) nb (blkL ds)
  let g := idx os
  match renL g ds, sequence (os.map fun b => (H st.h b).ren g) with
  | some ds, some bs => some (ds, bs)
  | _, _ => none
def SS.st (N : Nat) (s : SS) (x : s.X) : St := ⟨place N s.keep (s.s.enc x.1), s.b.enc x.2⟩
def SS.at (nb : Nat) (s : SS) (st : St) : Option s.X := match canon s.keep nb st with | some x => s.dec x | none => none
def prom : List PR → St → St
  | [], st => st
  | .row i e t :: l, st => prom l (match st.t.getD i .no with | .v (.r .s) _ [.ns] => (if t.nr = 0 ∧ 0 < t.sz then ⟨st.t.set i (.v (.r .s) () [.w st.h.length]), st.h ++ [.w e t [] true]⟩ else st) | _ => st)
  | .view i :: l, st => prom l (match st.t.getD i .no with
    | .v (.r .s) _ [.w b] => (match H st.h b with | .w _ _ l _ => ⟨st.t.set i (.sl b (some 0) l.length), st.h⟩ | _ => st)
    | .sl b none n => ⟨st.t.set i (.sl b (some 0) n), st.h⟩ | _ => st)
def encS {R : Type} (N : Nat) : (l : List ES) → XS ES.X l → (Exit → St → Option R) → Option R
  | [], _, _ => none | [e], x, k => k (kex e.k) (e.s.st N x) | e :: f :: l, x, k => sm x (fun y => k (kex e.k) (e.s.st N y)) fun y => encS N (f :: l) y k
def decS (nb : Nat) : (l : List ES) → Exit → St → Option (XS ES.X l)
  | [], _, _ => none
  | [e], k, st => if exk k = some e.k then e.s.at nb st else none
  | e :: f :: l, k, st => match (if exk k = some e.k then e.s.at nb st else none) with
    | some y => some (.inl y) | none => match decS nb (f :: l) k st with | some y => some (.inr y) | none => none

/-- The first summary that fits. -/
def pickS : List Cs → St → Option ((s : Cs) × s.s.X)
  | [], _ => none
  | s :: l, st => match s.s.at s.nb (prom s.pr st) with | some v => some ⟨s, v⟩ | none => pickS l st
def jn (E : Env) (c : Code) : List Cs := match firstId c with | some i => E.j i | none => []
def run {R : Type} (E : Env) : Code → St → (Exit → St → Option R) → Option R
  | .skip, st, k => k .normal st
  | .region _ ops false, st, k => runOps E ops ops.toList st.h.length st fun st nx => bif low nx st then k .normal st else none
  | .region id ops true, st, k => match E.w id with
    | some W => bif Region.noSelect ops then runAny E ops W st.h ops.size (Array.replicate ops.size false) st.h.length st fun st nx => bif low nx st then k .normal st else none else none
    | none => runDraw E ops ops.toList 0 st.h.length st fun st nx => bif low nx st then k .normal st else none
  | .seq a b, st, k => run E a st fun e st => match e with
    | .normal => match jn E b with
      | [] => run E b st k
      | l => match pickS l st with | some ⟨s, v⟩ => ob (s.f v) fun x => encS st.t.length s.x x k | none => none
    | e => k e st
  | .cond c a b, st, k => match ev (tf st.t) c with | .v .b c _ => Br c (run E a st k) (run E b st k) | _ => none
  | .block id c, st, k => match E.lp id with
    | l@(_ :: _) => match pickS l st with | some ⟨s, v⟩ => ob (s.f v) fun x => encS st.t.length s.x x k | none => none
    | [] => run E c st fun e st => match e with | .exit i => if i = id then k .normal st else k (.exit i) st | e => k e st
  | .exit i, st, k => k (.exit i) st
  | .ret, st, k => k .ret st
  | .scope c, st, k => run E c st fun e st => match e with | .goto _ => none | e => k e st
  | _, _, _ => none

/-! ### Functions -/
def entry (N : Nat) (as : List D) (h : List Blk) : St := ⟨as ++ List.replicate (N - as.length) .no, h⟩
def resD (E : Env) (h : Nat → Blk) (t : List D) : List ResultVar → Option (List D)
  | [] => some []
  | .tmp i :: l => (resD E h t l).map (t.getD i .no :: ·)
  | .cell a ty :: l => match loadD h (t.getD a .no) with | some (.v u y rs) => if E.ty ty = some u then (resD E h t l).map (.v u y rs :: ·) else none | _ => none
def oneD : List D → D | [d] => d | ds => .tup ds
/-- What a function's end comes to. -/
def finish (E : Env) (fn : Func) (m : Nat) (st : St) : Option (D × List Blk × List Blk) :=
  match resD E (H st.h) st.t fn.results.toList with
  | some ds => 
    let r := oneD ds
    let os := reachN (H st.h) m r.blk
    match r.ren (idx os), sequence (os.map fun b => (H st.h b).ren (idx os)) with
    | some r, some bs => some (r, bs.take m, bs.drop m)
    | _, _ => none
  | none => none
def kfin (E : Env) (fn : Func) (c : Cf) (m : Nat) : Exit → St → Option (XS RS.X c.r) := fun e st => match e with
  | .ret | .normal => match finish E fn m st with | some x => decR c.r x | none => none
  | _ => none
def SD.n : SD → Nat | .c a b => a.n + b.n | .e => 0 | .fc _ s => (match s.n with | 1 => 1 | _ => 0) | _ => 1
def SB.n : SB → Nat | .c a b => a.n + b.n | .e => 0 | _ => 1
def SB.own : SB → Bool | .c a b => a.own && b.own | .w _ _ z => z | _ => true
/-- The forms fit the function. -/
def Cf.fit (c : Cf) (N : Nat) : Bool := Nat.ble c.a.n N && c.r.all fun s => Nat.beq s.hs.n c.b.n && s.ns.own
def bodyOf (f : Func) : Code := match f.body with | some c => c | none => .skip
/-- A loop: its body again and again; what stands at its end goes on to the next round. -/
def kloop (id : Nat) (c : Cs) (r : c.s.X → Option (XS ES.X c.x)) : Exit → St → Option (XS ES.X c.x) := fun e st => match e with
  | .normal => match c.s.at c.nb (prom c.pr st) with | some v => r v | none => none
  | .exit i => decS c.nb c.x (if i = id then .normal else .exit i) st
  | e => decS c.nb c.x e st
/-- The body of the loop in block id; the code from region id on. -/
def lbody (id : Nat) : Code → Code
  | .block i (.loop c) => if i = id then c else lbody id c
  | .seq a b => match lbody id a with | .skip => lbody id b | c => c
  | .cond _ a b => match lbody id a with | .skip => lbody id b | c => c
  | .block _ c | .loop c | .scope c => lbody id c
  | _ => .skip
def jbody (id : Nat) : Code → Code
  | .seq a b => if firstId b = some id then b else match jbody id a with | .skip => jbody id b | c => c
  | .cond _ a b => match jbody id a with | .skip => jbody id b | c => c
  | .block _ c | .loop c | .scope c => jbody id c
  | _ => .skip
def lkM : List (Nat × String × Nat) → Nat → String → Option Nat | [], _, _ => none | (i, s, x) :: l, j, r => if i = j ∧ s = r then some x else lkM l j r
def lkA {α : Type} : List (Nat × α) → Nat → List α | [], _ => [] | (i, x) :: l, j => if i = j then x :: lkA l j else lkA l j
def lk {α : Type} : List (Nat × α) → Nat → Option α | [], _ => none | (i, x) :: l, j => if i = j then some x else lk l j
end Go.AM
end
/- The abstract machine and the program's own: when a state of the one stands for a state of the other. -/
section
set_option linter.constructorNameAsVariable false
set_option linter.unusedVariables false
set_option linter.unusedSimpArgs false
namespace Go.AM

def All2 {α β : Type} (R : α → β → Prop) : List α → List β → Prop
  | [], [] => True | a :: l, b :: m => R a b ∧ All2 R l m | _, _ => False
section
variable {α β : Type} {R S : α → β → Prop}
theorem All2.length : ∀ {l : List α} {m : List β}, All2 R l m → l.length = m.length
  | [], [], _ => rfl | _ :: _, _ :: _, h => by simp [All2.length h.2] | [], _ :: _, h => h.elim | _ :: _, [], h => h.elim
theorem All2.mono (f : ∀ a b, R a b → S a b) : ∀ {l : List α} {m : List β}, All2 R l m → All2 S l m
  | [], [], _ => trivial | _ :: _, _ :: _, h => ⟨f _ _ h.1, All2.mono f h.2⟩ | [], _ :: _, h => h.elim | _ :: _, [], h => h.elim
theorem All2.append : ∀ {l : List α} {m : List β} {l' : List α} {m' : List β}, All2 R l m → All2 R l' m' → All2 R (l ++ l') (m ++ m')
  | [], [], _, _, _, k => k | _ :: _, _ :: _, _, _, h, k => ⟨h.1, All2.append h.2 k⟩ | [], _ :: _, _, _, h, _ => h.elim | _ :: _, [], _, _, h, _ => h.elim
theorem All2.split : ∀ {l l' : List α} {m : List β}, All2 R (l ++ l') m → ∃ m1 m2, m = m1 ++ m2 ∧ All2 R l m1 ∧ All2 R l' m2
  | [], _, m, h => ⟨[], m, rfl, trivial, h⟩
  | _ :: _, _, [], h => h.elim
  | _ :: _, _, b :: _, h => by
    obtain ⟨m1, m2, e, x, y⟩ := All2.split h.2
    exact ⟨b :: m1, m2, by rw [e]; rfl, ⟨h.1, x⟩, y⟩
theorem All2.get : ∀ {l : List α} {m : List β}, All2 R l m → ∀ (i : Nat) (a : α) (b : β), l[i]? = some a → m[i]? = some b → R a b
  | [], [], _, _, _, _, h, _ => by simp at h
  | _ :: _, _ :: _, h, 0, _, _, x, y => by simp at x y; subst x; subst y; exact h.1
  | _ :: _, _ :: _, h, i + 1, _, _, x, y => All2.get h.2 i _ _ (by simpa using x) (by simpa using y)
  | [], _ :: _, h, _, _, _, _, _ => h.elim
  | _ :: _, [], h, _, _, _, _, _ => h.elim
theorem all2_map {γ δ : Type} (f : γ → α) (g : δ → β) : ∀ {l : List γ} {m : List δ}, All2 (fun x y => R (f x) (g y)) l m → All2 R (l.map f) (m.map g)
  | [], [], _ => trivial | _ :: _, _ :: _, h => ⟨h.1, all2_map f g h.2⟩ | [], _ :: _, h => h.elim | _ :: _, [], h => h.elim
end

/-- What stands in a cell: a value, or a reference. -/
inductive CS where | v (x : Value) | r (r : Ref)

def cs : (t : Ty) → t.den → List Ref → List CS
  | .i k, x, _ => [.v (.int k x)] | .b, x, _ => [.v (.bool x)] | .s, x, _ => [.v (.string x)]
  | .a k _, x, _ => x.map fun n => .v (.int k n) | .r _, _, rs => [.r (rs.headD .np)] | .u, _, _ => []
  | .p a b, x, rs => cs a x.1 (rs.take a.nr) ++ cs b x.2 (rs.drop a.nr)
  | .l _ t, x, _ => List.flatMap (fun y => cs t y []) x
def wf : (t : Ty) → t.den → Prop
  | .a _ n, x => List.length x = n | .p a b, x => wf a x.1 ∧ wf b x.2 | .l n t, (x : List t.den) => x.length = n ∧ t.nr = 0 ∧ ∀ y ∈ x, wf t y | _, _ => True

theorem cs_len : ∀ (t : Ty) (x : t.den) (rs : List Ref), wf t x → (cs t x rs).length = t.sz
  | .i _, _, _, _ | .b, _, _, _ | .s, _, _, _ | .r _, _, _, _ | .u, _, _, _ => rfl
  | .a _ _, x, _, h => by simpa [cs, Ty.sz, wf] using h
  | .p a b, x, rs, h => by simp [cs, Ty.sz, cs_len a x.1 _ h.1, cs_len b x.2 _ h.2]
  | .l n t, x, rs, h => by
    have key : ∀ l : List t.den, (∀ y ∈ l, wf t y) → (l.flatMap (fun y => cs t y [])).length = l.length * t.sz := by
      intro l
      induction l with
      | nil => simp
      | cons y l ih =>
        intro hl
        simp [cs_len t y [] (hl y (by simp)), ih (fun z hz => hl z (by simp [hz])), Nat.add_mul]
        omega
    have := key x h.2.2
    simp only [cs, Ty.sz]
    rw [this, h.1]

/-- The kind of a block, as references to it see it. -/
def shp : Blk → Option (Nat × Ty × Nat)
  | .o t _ _ => some (0, t, 0) | .w _ t l _ => some (1, t, l.length) | .it _ _ => some (2, .u, 0) | .de => none | .sh t => some (0, t, 0)
def mutb : Blk → Bool | .w _ _ _ own => own | .de => false | .sh _ => false | _ => true

/-- Numbers in use, the blocks, and where they lie. -/
structure Wd where
  U : Nat → Prop
  h : Nat → Blk
  ι : Nat → Option (Nat × Nat × Nat)

def Pth : Ty → List Stp → Nat → Ty → Prop
  | t, [], off, u => off = 0 ∧ u = t
  | .p a _, .f 0 :: q, off, u => Pth a q off u
  | .p a b, .f (j + 1) :: q, off, u => ∃ o, off = a.sz + o ∧ Pth b (.f j :: q) o u
  | .l n t, .i k :: q, off, u => k < n ∧ ∃ o, off = k * t.sz + o ∧ Pth t q o u
  | .a k n, [.o o none], off, u => o.getD 0 < n ∧ off = o.getD 0 ∧ u = .i k
  | .a k n, [.o o (some m)], off, u => o.getD 0 + m ≤ n ∧ off = o.getD 0 ∧ u = .a k m
  | _, _, _, _ => False

def RR (M : Wd) : Ref → Value → Prop
  | .np, v => v = .pointer none | .ns, v => v = .slice none 0 0 | .nm, v => v = .map none
  | .p b, v => M.U b ∧ (shp (M.h b) ≠ none → ∃ g c, M.ι b = some (g, 0, c) ∧ v = .pointer (some ⟨g, 0, none⟩))
  | .w b, v => M.U b ∧ ∀ k t n, shp (M.h b) = some (k, t, n) → match M.ι b with
    | none => v = .slice none 0 0 ∧ n = 0
    | some (g, o, c) => v = .slice (some ⟨g, o, none⟩) n c ∧ n ≤ c
  | .m _, _ => False
def CR (M : Wd) : CS → Value → Prop | .v x, v => v = x | .r r, v => RR M r v ∧ v.oneCell' = true
def isAgg : Value → Bool | .agg _ => true | _ => false
/-- Where a part of a row lies: an empty one somewhere in its block, or nowhere. -/
def AtR (M : Wd) (b : Nat) (off n sz : Nat) (A : Option Addr) (c : Nat) : Prop :=
  (A = none ∧ n = 0 ∧ c = 0) ∨ ∃ g o cap o', M.ι b = some (g, o, cap) ∧ A = some ⟨g, o', none⟩ ∧ (n ≠ 0 → o' = o + off * sz)
theorem AtR.old {M : Wd} {b off n sz : Nat} {A : Option Addr} {c : Nat} (h : AtR M b off n sz A c) : n = 0 ∨ ∃ g o cap, M.ι b = some (g, o, cap) ∧ A = some ⟨g, o + off * sz, none⟩ := by
  rcases h with ⟨_, h, _⟩ | ⟨g, o, cap, o', h1, h2, h3⟩
  · exact .inl h
  · by_cases hn : n = 0
    · exact .inl hn
    · exact .inr ⟨g, o, cap, h1, by rw [h2, h3 hn]⟩
def SlR (M : Wd) (b : Nat) (off : Option Nat) (n : Nat) (v : Value) : Prop :=
  ∀ k t m, shp (M.h b) = some (k, t, m) → k = 1 ∧ off.getD 0 + n ≤ m ∧ ∃ A c, v = .slice A n c ∧ n ≤ c ∧ AtR M b (off.getD 0) n t.sz A c
def IpR (M : Wd) (b : Nat) (q : List Stp) (v : Value) : Prop :=
  ∀ k t m, shp (M.h b) = some (k, t, m) → ∃ g o c off u, M.ι b = some (g, o, c) ∧ v = .pointer (some ⟨g, o + off, none⟩) ∧
    ((k = 0 ∧ Pth t q off u) ∨ (k = 1 ∧ ∃ j q' o', q = .i j :: q' ∧ j < m ∧ off = j * t.sz + o' ∧ Pth t q' o' u))
mutual
def DR (M : Wd) : D → Value → Prop
  | .no, _ => True
  | .v t x rs, v => wf t x ∧ rs.length = t.nr ∧ isAgg v = t.ag ∧ All2 (CR M) (cs t x rs) v.cells.toList
  | .tup l, v => ∃ vs, v = .tuple vs ∧ DRL M l vs.toList
  | .fc t d, v => ∃ u, v = .iface t u ∧ DR M d u
  | .nf, v => v = .nilIface
  | .sl b off n, v => M.U b ∧ SlR M b off n v
  | .ip b q, v => M.U b ∧ IpR M b q v
  | .clo f c, v => ∃ vs, v = .func (.func f) #[] vs ∧ DRL M c vs.toList
  | .it b, v => M.U b ∧ (shp (M.h b) ≠ none → ∃ g c, M.ι b = some (g, 0, c) ∧ v = .pointer (some ⟨g, 0, none⟩))
def DRL (M : Wd) : List D → List Value → Prop
  | [], [] => True | d :: l, v :: m => DR M d v ∧ DRL M l m | _, _ => False
end

/-- A later world: what was in use is as it was, as references see it, or gone. -/
def Ext (M M' : Wd) : Prop := ∀ b, M.U b → M'.U b ∧ (shp (M'.h b) = none ∨ (shp (M'.h b) = shp (M.h b) ∧ M'.ι b = M.ι b))
theorem Ext.refl (M : Wd) : Ext M M := fun _ h => ⟨h, .inr ⟨rfl, rfl⟩⟩
theorem RR.ext {M M' : Wd} (e : Ext M M') {r : Ref} {v : Value} (h : RR M r v) : RR M' r v := by
  cases r with
  | p b =>
    obtain ⟨hu, h⟩ := h
    obtain ⟨hu', hs⟩ := e b hu
    refine ⟨hu', fun hn => ?_⟩
    rcases hs with hs | ⟨hs, hi⟩
    · exact absurd hs hn
    · rw [hi]; exact h (by rw [← hs]; exact hn)
  | w b =>
    obtain ⟨hu, h⟩ := h
    obtain ⟨hu', hs⟩ := e b hu
    refine ⟨hu', fun k t n hk => ?_⟩
    rcases hs with hs | ⟨hs, hi⟩
    · rw [hs] at hk; cases hk
    · rw [hi]; exact h k t n (by rw [← hs]; exact hk)
  | m b => exact h.elim
  | np => exact h
  | ns => exact h
  | nm => exact h
theorem CR.ext {M M' : Wd} (e : Ext M M') : ∀ c v, CR M c v → CR M' c v
  | .v _, _, h => h | .r _, _, h => ⟨RR.ext e h.1, h.2⟩
mutual
theorem DR.ext {M M' : Wd} (e : Ext M M') : ∀ (d : D) (v : Value), DR M d v → DR M' d v
  | .no, _, _ => trivial
  | .v t x rs, v, h => ⟨h.1, h.2.1, h.2.2.1, h.2.2.2.mono (CR.ext e)⟩
  | .tup l, v, h => by
    obtain ⟨vs, rfl, h⟩ := h
    exact ⟨vs, rfl, DRL.ext e l _ h⟩
  | .fc t d, v, h => by
    obtain ⟨u, rfl, h⟩ := h
    exact ⟨u, rfl, DR.ext e d u h⟩
  | .nf, _, h => h
  | .sl b off n, v, ⟨hu, h⟩ => by
    obtain ⟨hu', hs⟩ := e b hu
    refine ⟨hu', fun k t m hk => ?_⟩
    rcases hs with hs | ⟨hs, hi⟩
    · rw [hs] at hk; cases hk
    unfold AtR
    rw [hi]
    have h := h k t m (by rw [← hs]; exact hk)
    unfold AtR at h
    exact h
  | .ip b q, v, ⟨hu, h⟩ => by
    obtain ⟨hu', hs⟩ := e b hu
    refine ⟨hu', fun k t m hk => ?_⟩
    rcases hs with hs | ⟨hs, hi⟩
    · rw [hs] at hk; cases hk
    · rw [hi]; exact h k t m (by rw [← hs]; exact hk)
  | .clo f c, v, h => by
    obtain ⟨vs, rfl, h⟩ := h
    exact ⟨vs, rfl, DRL.ext e c _ h⟩
  | .it b, v, ⟨hu, h⟩ => by
    obtain ⟨hu', hs⟩ := e b hu
    refine ⟨hu', fun hn => ?_⟩
    rcases hs with hs | ⟨hs, hi⟩
    · exact absurd hs hn
    · rw [hi]; exact h (by rw [← hs]; exact hn)
theorem DRL.ext {M M' : Wd} (e : Ext M M') : ∀ (l : List D) (m : List Value), DRL M l m → DRL M' l m
  | [], [], _ => trivial | d :: l, v :: m, h => ⟨DR.ext e d v h.1, DRL.ext e l m h.2⟩ | [], _ :: _, h => h.elim | _ :: _, [], h => h.elim
end

/-- The cells of a row without references. -/
def val1 : CS → Value | .v x => x | .r _ => .nilIface
def rowv (t : Ty) (l : List t.den) : List Value := l.flatMap fun y => (cs t y []).map val1
def BR (M : Wd) (w : World) (b : Nat) : Prop :=
  match M.h b with
  | .de => True
  | .sh _ => ∃ g c, M.ι b = some (g, 0, c) ∧ g < w.heap.size
  | .o t x rs => ∃ g c C ty, M.ι b = some (g, 0, c) ∧ w.heap[g]? = some (.cells C ty (0, 0)) ∧ wf t x ∧ rs.length = t.nr ∧ All2 (CR M) (cs t x rs) C.toList
  | .w e t l own => t.nr = 0 ∧ 0 < t.sz ∧ (∀ y ∈ l, wf t y) ∧
    (own = true → w.ownsRow 0 e t.sz (match M.ι b with | none => .slice none 0 0 | some (g, o, c) => .slice (some ⟨g, o, none⟩) l.length c) l.length (rowv t l)) ∧
    (own = false → match M.ι b with | none => l = [] | some (g, o, c) => l.length ≤ c ∧ g < w.heap.size ∧ (l = [] ∨ ∃ C ty fr, w.heap[g]? = some (.cells C ty fr) ∧ o + l.length * t.sz ≤ C.size ∧ (C.toList.drop o).take (l.length * t.sz) = rowv t l))
  | .it s p => ∃ g c, M.ι b = some (g, 0, c) ∧ w.heap[g]? = some (.stringIter s p)
def Sep (M : Wd) : Prop := ∀ b b' g o c g' o' c', b ≠ b' → mutb (M.h b) = true → M.h b' ≠ .de → M.ι b = some (g, o, c) → M.ι b' = some (g', o', c') → g ≠ g'
/-- What a call may touch. -/
structure Fr (F : Nat → Prop) (w0 w : World) : Prop where
  os : w.os = w0.os
  tape : w.tape = w0.tape
  output : w.output = w0.output
  size : w0.heap.size ≤ w.heap.size
  block : ∀ k, k < w0.heap.size → ¬ F k → w.heap[k]? = w0.heap[k]?
structure Rel (F : Nat → Prop) (w0 : World) (N : Nat) (M : Wd) (T : Nat → D) (a : Act) (w : World) : Prop where
  size : a.tmps.size = N
  tm : ∀ i, DR M (T i) (a.tmps.getD i undef)
  bl : ∀ b, BR M w b
  un : ∀ b, ¬ M.U b → M.h b = .de
  sp : Sep M
  ft : ∀ b g o c, mutb (M.h b) = true → M.ι b = some (g, o, c) → F g ∨ w0.heap.size ≤ g
  fr : Fr F w0 w
  df : a.defers = []
def putT (N : Nat) (T : Nat → D) (dst : Option Nat) (d : D) : Nat → D := fun i => if dst = some i ∧ i < N then d else T i
theorem Rel.put {F : Nat → Prop} {w0 : World} {N : Nat} {M : Wd} {T : Nat → D} {a : Act} {w : World} (R : Rel F w0 N M T a w) (dst : Option Nat) {d : D} {v : Value} (h : DR M d v) : Rel F w0 N M (putT N T dst d) (a.put dst v) w := by
  refine ⟨?_, fun i => ?_, R.bl, R.un, R.sp, R.ft, R.fr, ?_⟩
  · cases dst <;> simp [Act.put, R.size]
  · have e : (a.put dst v).tmps.getD i undef = if dst = some i ∧ i < N then v else a.tmps.getD i undef := by
      cases dst with
      | none => simp [Act.put]
      | some j =>
        by_cases hj : j = i
        · subst hj
          by_cases hN : j < N
          · simp [hN, Act.put, R.size]
          · have hge : a.tmps.size ≤ j := by rw [R.size]; omega
            simp [hN, Act.put, R.size]
        · simp [hj, Act.put, Array.getElem?_setIfInBounds_ne hj]
    rw [e]
    unfold putT
    split
    · exact h
    · exact R.tm i
  · cases dst <;> simp [Act.put, R.df]
end Go.AM
end
/- Paths within data, and what stands there. -/
section
set_option linter.constructorNameAsVariable false
set_option linter.unusedVariables false
set_option linter.unusedSimpArgs false
namespace Go.AM
theorem cst_some {t u : Ty} {x : t.den} {y : u.den} (h : cst t u x = some y) : ∃ e : t = u, e ▸ x = y := by
  unfold cst at h
  split at h
  · rename_i e; exact ⟨e, by simpa using h⟩
  · cases h
theorem cst_self (t : Ty) (x : t.den) : cst t t x = some x := by simp [cst]

theorem getD_split {α : Type} (l : List α) (k : Nat) (d : α) (h : k < l.length) : l = l.take k ++ l.getD k d :: l.drop (k + 1) := by
  have e : l.getD k d = l[k] := by simp [h]
  rw [e, List.getElem_cons_drop]
  exact (List.take_append_drop k l).symm
theorem set_split {α : Type} (l : List α) (k : Nat) (y : α) (h : k < l.length) : l.set k y = l.take k ++ y :: l.drop (k + 1) := by
  rw [List.set_eq_take_append_cons_drop]; simp [h]
theorem flat_len {t : Ty} (l : List t.den) (h : ∀ y ∈ l, wf t y) : (l.flatMap (fun y => cs t y [])).length = l.length * t.sz := by
  induction l with
  | nil => simp
  | cons y l ih =>
    simp [cs_len t y [] (h y (by simp)), ih (fun z hz => h z (by simp [hz])), Nat.add_mul]
    omega
theorem wf_dfl_of_nr (t : Ty) : True := trivial

theorem look_ok : ∀ (t : Ty) (x : t.den) (rs : List Ref) (q : List Stp) (off : Nat) (u : Ty) (d : D), wf t x → rs.length = t.nr → Pth t q off u → look t x rs q = some d →
    ∃ y rs', d = .v u y rs' ∧ wf u y ∧ rs'.length = u.nr ∧ ∃ pre post, cs t x rs = pre ++ (cs u y rs' ++ post) ∧ pre.length = off := by
  intro t
  induction t with
  | p a b iha ihb =>
    intro x rs q off u d hw hr hp hl
    cases q with
    | nil =>
      obtain ⟨rfl, rfl⟩ := hp
      simp [look] at hl; subst hl
      exact ⟨x, rs, rfl, hw, hr, [], [], by simp, rfl⟩
    | cons s q =>
      cases s with
      | f j =>
        cases j with
        | zero =>
          simp only [Pth] at hp
          simp only [look] at hl
          obtain ⟨y, rs', hd, h1, h2, pre, post, h3, h4⟩ := iha x.1 (rs.take a.nr) q off u d hw.1 (by simp only [Ty.nr] at hr; simp; omega) hp hl
          exact ⟨y, rs', hd, h1, h2, pre, post ++ cs b x.2 (rs.drop a.nr), by simp only [cs]; rw [h3]; simp, h4⟩
        | succ j =>
          simp only [Pth] at hp
          obtain ⟨o, rfl, hp⟩ := hp
          simp only [look] at hl
          obtain ⟨y, rs', hd, h1, h2, pre, post, h3, h4⟩ := ihb x.2 (rs.drop a.nr) (.f j :: q) o u d hw.2 (by simp only [Ty.nr] at hr; simp; omega) hp hl
          exact ⟨y, rs', hd, h1, h2, cs a x.1 (rs.take a.nr) ++ pre, post, by simp only [cs]; rw [h3]; simp, by simp [cs_len a x.1 _ hw.1, h4]⟩
      | i k => simp [Pth] at hp
      | o o m => simp [Pth] at hp
  | l n t ih =>
    intro (x : List t.den) rs q off u d hw hr hp hl
    cases q with
    | nil =>
      obtain ⟨rfl, rfl⟩ := hp
      simp [look] at hl; subst hl
      exact ⟨x, rs, rfl, hw, hr, [], [], by simp, rfl⟩
    | cons s q =>
      cases s with
      | i k =>
        simp only [Pth] at hp
        obtain ⟨hk, o, rfl, hp⟩ := hp
        simp only [look] at hl
        have hx : k < x.length := Nat.lt_of_lt_of_eq hk hw.1.symm
        have hm : List.getD x k (dfl t) ∈ x := by
          simp [hx]
        obtain ⟨y, rs', hd, h1, h2, pre, post, h3, h4⟩ := ih _ [] q o u d (hw.2.2 _ hm) (by simp [hw.2.1]) hp hl
        refine ⟨y, rs', hd, h1, h2, (List.take k x).flatMap (fun y => cs t y []) ++ pre, post ++ (List.drop (k + 1) x).flatMap (fun y => cs t y []), ?_, ?_⟩
        · show List.flatMap (fun y => cs t y []) x = _
          conv => lhs; rw [getD_split x k (dfl t) hx]
          simp only [List.flatMap_append, List.flatMap_cons]
          have h3' : cs t (x.getD k (dfl t)) [] = pre ++ (cs u y rs' ++ post) := h3
          rw [h3']
          simp
        · rw [List.length_append, flat_len _ (fun z hz => hw.2.2 z (List.mem_of_mem_take hz)), h4, List.length_take]
          rw [Nat.min_eq_left (by omega)]
      | f j => simp [Pth] at hp
      | o o m => simp [Pth] at hp
  | a k n =>
    intro (x : List Int) rs q off u d hw hr hp hl
    have hw' : x.length = n := hw
    cases q with
    | nil =>
      obtain ⟨rfl, rfl⟩ := hp
      simp [look] at hl; subst hl
      exact ⟨x, rs, rfl, hw, hr, [], [], by simp, rfl⟩
    | cons s q =>
      cases s with
      | o o m =>
        cases q with
        | cons _ _ => cases m <;> simp [Pth] at hp
        | nil =>
          cases m with
          | none =>
            simp only [Pth] at hp
            obtain ⟨h1, rfl, rfl⟩ := hp
            simp [look, rowAt] at hl; subst hl
            refine ⟨_, [], rfl, trivial, rfl, (List.take (o.getD 0) x).map (fun n => CS.v (.int k n)), (List.drop (o.getD 0 + 1) x).map (fun n => CS.v (.int k n)), ?_, by simp; omega⟩
            show List.map _ x = _
            conv => lhs; rw [getD_split x (o.getD 0) 0 (by omega)]
            simp [cs]
          | some m =>
            simp only [Pth] at hp
            obtain ⟨h1, rfl, rfl⟩ := hp
            simp [look, rowAt] at hl; subst hl
            have hdrp : drp o x = List.drop (o.getD 0) x := by cases o <;> rfl
            refine ⟨_, [], rfl, ?_, rfl, (List.take (o.getD 0) x).map (fun n => CS.v (.int k n)), (List.drop m (drp o x)).map (fun n => CS.v (.int k n)), ?_, by simp; omega⟩
            · show List.length (List.take m (drp o x)) = m
              rw [hdrp]; simp; omega
            · show List.map _ x = _ ++ (List.map _ (List.take m (drp o x)) ++ _)
              rw [← List.map_append, List.take_append_drop, hdrp, ← List.map_append, List.take_append_drop]
      | f j => simp [Pth] at hp
      | i j => simp [Pth] at hp
  | i k => intro x rs q off u d hw hr hp hl; cases q with | nil => (obtain ⟨rfl, rfl⟩ := hp; simp [look] at hl; subst hl; exact ⟨x, rs, rfl, hw, hr, [], [], by simp, rfl⟩) | cons s q => simp [Pth] at hp
  | b => intro x rs q off u d hw hr hp hl; cases q with | nil => (obtain ⟨rfl, rfl⟩ := hp; simp [look] at hl; subst hl; exact ⟨x, rs, rfl, hw, hr, [], [], by simp, rfl⟩) | cons s q => simp [Pth] at hp
  | s => intro x rs q off u d hw hr hp hl; cases q with | nil => (obtain ⟨rfl, rfl⟩ := hp; simp [look] at hl; subst hl; exact ⟨x, rs, rfl, hw, hr, [], [], by simp, rfl⟩) | cons s q => simp [Pth] at hp
  | r k => intro x rs q off u d hw hr hp hl; cases q with | nil => (obtain ⟨rfl, rfl⟩ := hp; simp [look] at hl; subst hl; exact ⟨x, rs, rfl, hw, hr, [], [], by simp, rfl⟩) | cons s q => simp [Pth] at hp
  | u => intro x rs q off u d hw hr hp hl; cases q with | nil => (obtain ⟨rfl, rfl⟩ := hp; simp [look] at hl; subst hl; exact ⟨x, rs, rfl, hw, hr, [], [], by simp, rfl⟩) | cons s q => simp [Pth] at hp

theorem upd_nil (t : Ty) (x : t.den) (rs : List Ref) (d : D) (r : t.den × List Ref) (h : upd t x rs [] d = some r) : d = .v t r.1 r.2 := by
  cases d with
  | v u y rs1 =>
    have h' : (cst u t y).map (fun y => (y, rs1)) = some r := by cases t <;> simpa [upd] using h
    rw [Option.map_eq_some_iff] at h'
    obtain ⟨z, hz, rfl⟩ := h'
    obtain ⟨rfl, rfl⟩ := cst_some hz
    rfl
  | _ => cases t <;> simp [upd] at h
theorem upd_ok : ∀ (t : Ty) (x : t.den) (rs : List Ref) (q : List Stp) (off : Nat) (u : Ty) (d : D) (r : t.den × List Ref), wf t x → rs.length = t.nr → Pth t q off u → upd t x rs q d = some r →
    ∃ y rs', d = .v u y rs' ∧ (wf u y → rs'.length = u.nr → wf t r.1 ∧ r.2.length = t.nr ∧
      ∃ pre mid post, cs t x rs = pre ++ (mid ++ post) ∧ pre.length = off ∧ mid.length = u.sz ∧ cs t r.1 r.2 = pre ++ (cs u y rs' ++ post)) := by
  intro t
  have nil : ∀ (t : Ty) (x : t.den) (rs : List Ref) (off : Nat) (u : Ty) (d : D) (r : t.den × List Ref), wf t x → off = 0 ∧ u = t → upd t x rs [] d = some r →
    ∃ y rs', d = .v u y rs' ∧ (wf u y → rs'.length = u.nr → wf t r.1 ∧ r.2.length = t.nr ∧
      ∃ pre mid post, cs t x rs = pre ++ (mid ++ post) ∧ pre.length = off ∧ mid.length = u.sz ∧ cs t r.1 r.2 = pre ++ (cs u y rs' ++ post)) := by
    intro t x rs off u d r hw hp hl
    obtain ⟨rfl, rfl⟩ := hp
    exact ⟨r.1, r.2, upd_nil _ x rs d r hl, fun h1 h2 => ⟨h1, h2, [], cs _ x rs, [], by simp, rfl, cs_len _ x rs hw, by simp⟩⟩
  induction t with
  | p a b iha ihb =>
    intro x rs q off u d r hw hr hp hl
    cases q with
    | nil => exact nil _ x rs off u d r hw hp hl
    | cons s q =>
      cases s with
      | f j =>
        cases j with
        | zero =>
          simp only [Pth] at hp
          simp only [upd, Option.map_eq_some_iff] at hl
          obtain ⟨r1, hl, rfl⟩ := hl
          obtain ⟨y, rs', hd, h⟩ := iha x.1 (rs.take a.nr) q off u d r1 hw.1 (by simp only [Ty.nr] at hr; simp; omega) hp hl
          refine ⟨y, rs', hd, fun h1 h2 => ?_⟩
          obtain ⟨g1, g2, pre, mid, post, g3, g4, g5, g6⟩ := h h1 h2
          refine ⟨⟨g1, hw.2⟩, by simp only [Ty.nr] at hr ⊢; simp [g2]; omega, pre, mid, post ++ cs b x.2 (rs.drop a.nr), by simp only [cs]; rw [g3]; simp, g4, g5, ?_⟩
          simp only [cs]
          rw [List.take_left' g2, List.drop_left' g2, g6]
          simp
        | succ j =>
          simp only [Pth] at hp
          obtain ⟨o, rfl, hp⟩ := hp
          simp only [upd, Option.map_eq_some_iff] at hl
          obtain ⟨r1, hl, rfl⟩ := hl
          obtain ⟨y, rs', hd, h⟩ := ihb x.2 (rs.drop a.nr) (.f j :: q) o u d r1 hw.2 (by simp only [Ty.nr] at hr; simp; omega) hp hl
          refine ⟨y, rs', hd, fun h1 h2 => ?_⟩
          obtain ⟨g1, g2, pre, mid, post, g3, g4, g5, g6⟩ := h h1 h2
          have hlen : (rs.take a.nr).length = a.nr := by simp only [Ty.nr] at hr; simp; omega
          refine ⟨⟨hw.1, g1⟩, by simp only [Ty.nr] at hr ⊢; simp [g2]; omega, cs a x.1 (rs.take a.nr) ++ pre, mid, post, by simp only [cs]; rw [g3]; simp, by simp [cs_len a x.1 _ hw.1, g4], g5, ?_⟩
          simp only [cs]
          rw [List.take_left' hlen, List.drop_left' hlen, g6]
          simp
      | i k => simp [Pth] at hp
      | o o m => simp [Pth] at hp
  | l n t ih =>
    intro (x : List t.den) rs q off u d r hw hr hp hl
    cases q with
    | nil => exact nil (.l n t) x rs off u d r hw hp hl
    | cons s q =>
      cases s with
      | i k =>
        simp only [Pth] at hp
        obtain ⟨hk, o, rfl, hp⟩ := hp
        simp only [upd, Option.map_eq_some_iff] at hl
        obtain ⟨r1, hl, rfl⟩ := hl
        have hx : k < x.length := Nat.lt_of_lt_of_eq hk hw.1.symm
        have hm : x.getD k (dfl t) ∈ x := by simp [hx]
        obtain ⟨y, rs', hd, h⟩ := ih _ [] q o u d r1 (hw.2.2 _ hm) (by simp [hw.2.1]) hp hl
        refine ⟨y, rs', hd, fun h1 h2 => ?_⟩
        obtain ⟨g1, g2, pre, mid, post, g3, g4, g5, g6⟩ := h h1 h2
        have hr1 : r1.2 = [] := List.eq_nil_of_length_eq_zero (by rw [g2, hw.2.1])
        rw [hr1] at g6
        refine ⟨⟨by simp [hw.1], hw.2.1, fun z hz => ?_⟩, hr, (x.take k).flatMap (fun y => cs t y []) ++ pre, mid, post ++ (x.drop (k + 1)).flatMap (fun y => cs t y []), ?_, ?_, g5, ?_⟩
        · rcases List.mem_or_eq_of_mem_set hz with hz | rfl
          · exact hw.2.2 z hz
          · exact g1
        · show List.flatMap (fun y => cs t y []) x = _
          conv => lhs; rw [getD_split x k (dfl t) hx]
          simp only [List.flatMap_append, List.flatMap_cons]
          rw [g3]
          simp
        · rw [List.length_append, flat_len _ (fun z hz => hw.2.2 z (List.mem_of_mem_take hz)), g4, List.length_take]
          rw [Nat.min_eq_left (by omega)]
        · show List.flatMap (fun y => cs t y []) (x.set k r1.1) = _
          rw [set_split x k r1.1 hx]
          simp only [List.flatMap_append, List.flatMap_cons]
          rw [g6]
          simp
      | f j => simp [Pth] at hp
      | o o m => simp [Pth] at hp
  | a k n =>
    intro (x : List Int) rs q off u d r hw hr hp hl
    have hw' : x.length = n := hw
    cases q with
    | nil => exact nil (.a k n) x rs off u d r hw hp hl
    | cons s q =>
      cases s with
      | o o m =>
        cases q with
        | cons _ _ => cases m <;> simp [Pth] at hp
        | nil =>
          cases m with
          | none =>
            simp only [Pth] at hp
            obtain ⟨h1, rfl, rfl⟩ := hp
            cases d with
            | v t' y rs' =>
              cases t' with
              | i k' =>
                simp only [upd] at hl
                split at hl
                · rename_i hk; subst hk
                  simp at hl; subst hl
                  refine ⟨y, rs', rfl, fun g1 g2 => ⟨by show (x.set _ y).length = n; simp [hw'], hr, (x.take (o.getD 0)).map (fun n => CS.v (.int k n)), [.v (.int k (x.getD (o.getD 0) 0))], (x.drop (o.getD 0 + 1)).map (fun n => CS.v (.int k n)), ?_, by simp; omega, rfl, ?_⟩⟩
                  · show List.map _ x = _
                    conv => lhs; rw [getD_split x (o.getD 0) 0 (by omega)]
                    simp
                  · show List.map _ (x.set (o.getD 0) y) = _
                    rw [set_split x (o.getD 0) y (by omega)]
                    simp [cs]
                · cases hl
              | _ => simp [upd] at hl
            | _ => simp [upd] at hl
          | some m =>
            simp only [Pth] at hp
            obtain ⟨h1, rfl, rfl⟩ := hp
            cases d with
            | v t' y rs' =>
              cases t' with
              | a k' m' =>
                simp only [upd] at hl
                split at hl
                · rename_i hk; obtain ⟨rfl, rfl⟩ := hk
                  simp at hl; subst hl
                  refine ⟨y, rs', rfl, fun g1 g2 => ?_⟩
                  have g1' : List.length (α := Int) y = m := g1
                  refine ⟨?_, hr, (x.take (o.getD 0)).map (fun n => CS.v (.int k n)), ((x.drop (o.getD 0)).take m).map (fun n => CS.v (.int k n)), (x.drop (o.getD 0 + m)).map (fun n => CS.v (.int k n)), ?_, by simp; omega, by simp [Ty.sz]; omega, ?_⟩
                  · show List.length (α := Int) (x.take (o.getD 0) ++ (y ++ x.drop (o.getD 0 + m))) = n
                    rw [List.length_append, List.length_append, g1']; simp; omega
                  · show List.map _ x = _
                    rw [← List.map_append, ← List.map_append, ← List.drop_drop, List.take_append_drop, List.take_append_drop]
                  · show List.map _ (x.take (o.getD 0) ++ (y ++ x.drop (o.getD 0 + m))) = _
                    rw [List.map_append, List.map_append]
                    rfl
                · cases hl
              | _ => simp [upd] at hl
            | _ => simp [upd] at hl
      | f j => simp [Pth] at hp
      | i j => simp [Pth] at hp
  | i k => intro x rs q off u d r hw hr hp hl; cases q with | nil => exact nil _ x rs off u d r hw hp hl | cons s q => simp [Pth] at hp
  | b => intro x rs q off u d r hw hr hp hl; cases q with | nil => exact nil _ x rs off u d r hw hp hl | cons s q => simp [Pth] at hp
  | s => intro x rs q off u d r hw hr hp hl; cases q with | nil => exact nil _ x rs off u d r hw hp hl | cons s q => simp [Pth] at hp
  | r k => intro x rs q off u d r hw hr hp hl; cases q with | nil => exact nil _ x rs off u d r hw hp hl | cons s q => simp [Pth] at hp
  | u => intro x rs q off u d r hw hr hp hl; cases q with | nil => exact nil _ x rs off u d r hw hp hl | cons s q => simp [Pth] at hp
end Go.AM
end
/- Operations that touch no memory. -/
section
set_option linter.constructorNameAsVariable false
set_option linter.unusedVariables false
set_option linter.unusedSimpArgs false
namespace Go.AM

/-! ### What the tables of types say -/
def nilv : CS → Value | .v x => x | .r .np => .pointer none | .r .ns => .slice none 0 0 | .r _ => .map none
def veq : Value → Value → Bool
  | .int k n, .int k' n' => k == k' && n == n' | .bool b, .bool b' => b == b' | .string s, .string s' => s.data.toList == s'.data.toList
  | .pointer none, .pointer none => true | .slice none 0 0, .slice none 0 0 => true | .map none, .map none => true | _, _ => false
def vleq : List Value → List Value → Bool | [], [] => true | a :: l, b :: m => veq a b && vleq l m | _, _ => false
theorem veq_eq {a b : Value} (h : veq a b = true) : a = b := by
  unfold veq at h
  split at h <;> simp_all
  rename_i s s'
  cases s; cases s'; simp_all
theorem vleq_eq : ∀ {l m : List Value}, vleq l m = true → l = m
  | [], [], _ => rfl
  | a :: l, b :: m, h => by
    simp only [vleq, Bool.and_eq_true] at h
    rw [veq_eq h.1, vleq_eq h.2]
  | [], _ :: _, h => by simp [vleq] at h
  | _ :: _, [], h => by simp [vleq] at h
def aggD : TypeDesc → Bool | .struct _ | .array _ _ => true | _ => false
def aggT (P : Program) (t : TypeId) : Bool := match P.underlying t with | some d => aggD d | none => false
def szT (P : Program) (t : TypeId) : Nat := match P.info? t with | some i => i.size | none => 0
theorem lk_all {α : Type} {l : List (Nat × α)} {p : Nat → α → Bool} (h : l.all (fun x => p x.1 x.2) = true) {t : Nat} {x : α} (hx : lk l t = some x) : p t x = true := by
  induction l with
  | nil => simp [lk] at hx
  | cons y l ih =>
    simp only [List.all_cons, Bool.and_eq_true] at h
    unfold lk at hx
    split at hx
    · rename_i e; simp at hx; subst e; subst hx; exact h.1
    · exact ih h.2 hx

/-! ### What comes next -/
def updH (h : Nat → Blk) (us : List (Nat × Blk)) : Nat → Blk := us.foldl (fun h u b => if b = u.1 then u.2 else h b) h
def addU (U : Nat → Prop) (us : List (Nat × Blk)) : Nat → Prop := fun b => U b ∨ ∃ k, (b, k) ∈ us
section
variable {P : Program} {F : Nat → Prop} {w0 w : World} {N : Nat} {U : Nat → Prop} {T : Nat → D} {h : Nat → Blk} {ι : Nat → Option (Nat × Nat × Nat)} {a : Act} {Q : Exit → Act → World → Prop}
/-- A state stands for (a, w), wherever its blocks lie. -/
def Nx (F : Nat → Prop) (w0 : World) (N : Nat) (M0 : Wd) (U : Nat → Prop) (T : Nat → D) (h : Nat → Blk) (a : Act) (w : World) : Prop := ∃ ι, Rel F w0 N ⟨U, h, ι⟩ T a w ∧ Ext M0 ⟨U, h, ι⟩
theorem addU_nil : addU U [] = U := by funext b; simp [addU]
/-- What an operation comes to that leaves all blocks alone. -/
def Did (P : Program) (M : Wd) (F : Nat → Prop) (w0 w : World) (d : D) : Result Next → Prop
  | .ok (.value v) w' => w' = w ∧ DR M d v
  | .ok (.enter f args) w' => w' = w ∧ Calls P f args w fun e w2 => ∃ v, e = .returned v ∧ DR M d v ∧ (∀ b, BR M w2 b) ∧ Fr F w0 w2
  | _ => False
/-- What is to be shown of an operation. -/
def Goes (P : Program) (o : Oper) (a : Act) (w : World) (F : Nat → Prop) (w0 : World) (N : Nat) (U : Nat → Prop) (T : Nat → D) (h : Nat → Blk) (ι : Nat → Option (Nat × Nat × Nat)) (e : Eff) (Q : Exit → Act → World → Prop) : Prop :=
  (e.2.1 = [] ∧ Did P ⟨U, h, ι⟩ F w0 w e.1 ((execOp a.eval o).run P w)) ∨ (e.2.1 ≠ [] ∧ o.wp P a w (Nx F w0 N ⟨U, h, ι⟩ (addU U e.2.1) (putT N T o.dst e.1) (updH h e.2.1)) Q)
theorem wp_val {o : Oper} {d : D} {v : Value} {nx : Nat} (R : Rel F w0 N ⟨U, h, ι⟩ T a w) (hr : (execOp a.eval o).run P w = .ok (.value v) w) (hd : DR ⟨U, h, ι⟩ d v) : Goes P o a w F w0 N U T h ι (d, [], nx) Q := by
  left
  rw [hr]
  exact ⟨rfl, rfl, hd⟩

theorem dr_ofV (M : Wd) (v : Value) : DR M (ofV v) v := by
  unfold ofV
  split <;> simp_all [DR, wf, Ty.nr, isAgg, Ty.ag, cs, All2, CR, RR, Value.cells, Value.oneCell']
theorem dr_ev (R : Rel F w0 N ⟨U, h, ι⟩ T a w) (x : Operand) : DR ⟨U, h, ι⟩ (ev T x) (a.eval x) := by
  cases x with
  | tmp t => exact R.tm t
  | const v => exact dr_ofV _ v
  | func f => exact ⟨#[], rfl, trivial⟩
  | global g => exact trivial

theorem dr_i {M : Wd} {k : IntKind} {n : Int} {rs : List Ref} {v : Value} (hd : DR M (.v (.i k) n rs) v) : v = .int k n ∧ rs = [] := by
  obtain ⟨_, h2, h3, h4⟩ := hd
  refine ⟨?_, by simpa [Ty.nr] using h2⟩
  cases v <;> simp_all [isAgg, Ty.ag, cs, Value.cells, All2, CR]
theorem dr_b {M : Wd} {n : Bool} {rs : List Ref} {v : Value} (hd : DR M (.v .b n rs) v) : v = .bool n ∧ rs = [] := by
  obtain ⟨_, h2, h3, h4⟩ := hd
  refine ⟨?_, by simpa [Ty.nr] using h2⟩
  cases v <;> simp_all [isAgg, Ty.ag, cs, Value.cells, All2, CR]
theorem dr_s {M : Wd} {n : ByteArray} {rs : List Ref} {v : Value} (hd : DR M (.v .s n rs) v) : v = .string n ∧ rs = [] := by
  obtain ⟨_, h2, h3, h4⟩ := hd
  refine ⟨?_, by simpa [Ty.nr] using h2⟩
  cases v <;> simp_all [isAgg, Ty.ag, cs, Value.cells, All2, CR]
theorem dr_r {M : Wd} {k : RK} {x : Unit} {rs : List Ref} {v : Value} (hd : DR M (.v (.r k) x rs) v) : ∃ r, rs = [r] ∧ RR M r v := by
  obtain ⟨_, h2, h3, h4⟩ := hd
  match rs, h2 with
  | [r], _ =>
    refine ⟨r, rfl, ?_⟩
    have h3' : isAgg v = false := h3
    cases v <;> simp_all [isAgg, cs, Value.cells, All2, CR]
theorem dri {M : Wd} (k : IntKind) (n : Int) : DR M (.v (.i k) n []) (.int k n) := by simp [DR, wf, Ty.nr, isAgg, Ty.ag, cs, All2, CR, Value.cells]
theorem drb {M : Wd} (n : Bool) : DR M (.v .b n []) (.bool n) := by simp [DR, wf, Ty.nr, isAgg, Ty.ag, cs, All2, CR, Value.cells]
theorem drs_ {M : Wd} (n : ByteArray) : DR M (.v .s n []) (.string n) := by simp [DR, wf, Ty.nr, isAgg, Ty.ag, cs, All2, CR, Value.cells]

/-- A thing comes of it. -/
def G.to {α : Type} : G α → α → Prop
  | .one x, y => x = y | .bad, _ => False | .br c x z, y => (c = true → x.to y) ∧ (c = false → z.to y)
  | .call o f, y => ∃ v, o = some v ∧ (f v).to y | .sm x f g, y => match x with | .inl v => (f v).to y | .inr v => (g v).to y
theorem G.bind_some {α R : Type} (g : G α) (k : α → Option R) (r : R) (hb : g.bind k = some r) : ∃ x, g.to x ∧ k x = some r := by
  induction g with
  | one x => exact ⟨x, rfl, hb⟩
  | bad => simp [G.bind] at hb
  | br c x y ihx ihy =>
    simp only [G.bind, Br] at hb
    cases c with
    | true => obtain ⟨z, h1, h2⟩ := ihx hb; exact ⟨z, ⟨fun _ => h1, fun e => by cases e⟩, h2⟩
    | false => obtain ⟨z, h1, h2⟩ := ihy hb; exact ⟨z, ⟨fun e => (by cases e), fun _ => h1⟩, h2⟩
  | call o f ih =>
    simp only [G.bind, ob] at hb
    cases o with
    | none => cases hb
    | some v => obtain ⟨z, h1, h2⟩ := ih v hb; exact ⟨z, ⟨v, rfl, h1⟩, h2⟩
  | sm x f g ihf ihg =>
    simp only [G.bind, AM.sm] at hb
    cases x with
    | inl v => obtain ⟨z, h1, h2⟩ := ihf v hb; exact ⟨z, h1, h2⟩
    | inr v => obtain ⟨z, h1, h2⟩ := ihg v hb; exact ⟨z, h1, h2⟩
theorem to_ofo {d : Option D} {nx : Nat} {e : Eff} (h : (ofo d nx).to e) : ∃ x, d = some x ∧ e = (x, [], nx) := by
  cases d with
  | none => exact h.elim
  | some x => exact ⟨x, rfl, h.symm⟩
theorem to_chk {c : Bool} {g : G Eff} {e : Eff} (h : (chk c g).to e) : c = true ∧ g.to e := by
  cases c with
  | true => exact ⟨rfl, h.1 rfl⟩
  | false => exact (h.2 rfl).elim
theorem to_gval : ∀ {g : G D} {nx : Nat} {e : Eff}, (g.val nx).to e → ∃ d, g.to d ∧ e = (d, [], nx)
  | .one d, nx, e, h => ⟨d, rfl, h.symm⟩
  | .bad, _, _, h => h.elim
  | .br c x y, nx, e, h => by
    cases c with
    | true => obtain ⟨d, h1, h2⟩ := to_gval (h.1 rfl); exact ⟨d, ⟨fun _ => h1, fun e => by cases e⟩, h2⟩
    | false => obtain ⟨d, h1, h2⟩ := to_gval (h.2 rfl); exact ⟨d, ⟨fun e => (by cases e), fun _ => h1⟩, h2⟩
  | .call _ _, _, _, h => h.elim
  | .sm _ _ _, _, _, h => h.elim
end
end Go.AM
end
/- Operations that touch no memory, one by one. -/
section
set_option linter.constructorNameAsVariable false
set_option linter.unusedVariables false
set_option linter.unusedSimpArgs false
namespace Go.AM
section
variable {P : Program} {F : Nat → Prop} {w0 w : World} {N : Nat} {U : Nat → Prop} {T : Nat → D} {h : Nat → Blk} {ι : Nat → Option (Nat × Nat × Nat)} {a : Act} {Q : Exit → Act → World → Prop} {M : Wd}

theorem run_binI {op : BinOp} {t : TypeId} {k : IntKind} {x y : Int} {d : D} (h : (binI op k x y).to d) (hs : op ≠ .shl ∧ op ≠ .shr) : ∃ v, (binOp op t (.int k x) (.int k y)).run P w = .ok v w ∧ DR M d v := by
  have A : ∀ (s : Sem Value) (v : Value), s = pure v → s.run P w = .ok v w := fun s v e => by subst e; rfl
  cases op with
  | shl => simp at hs
  | shr => simp at hs
  | add => subst h; exact ⟨.int k (wa k x y), A _ _ (by simp [binOp, Op.intArith, wa]), dri k _⟩
  | sub => subst h; exact ⟨.int k (ws k x y), A _ _ (by simp [binOp, Op.intArith, ws]), dri k _⟩
  | mul => subst h; exact ⟨.int k (wm k x y), A _ _ (by simp [binOp, Op.intArith, wm]), dri k _⟩
  | quo =>
    cases hy : eq y 0 with
    | true => exact (h.1 hy).elim
    | false =>
      have e := h.2 hy; subst e
      have h0 : ¬ y = 0 := by unfold eq at hy; simpa using hy
      exact ⟨.int k (qu k x y), A _ _ (by simp [binOp, Op.intDiv, qu, h0]), dri k _⟩
  | rem =>
    cases hy : eq y 0 with
    | true => exact (h.1 hy).elim
    | false =>
      have e := h.2 hy; subst e
      have h0 : ¬ y = 0 := by unfold eq at hy; simpa using hy
      exact ⟨.int k (rm x y), A _ _ (by simp [binOp, Op.intDiv, rm, h0]), dri k _⟩
  | and => subst h; exact ⟨.int k (ban k x y), A _ _ (by simp [binOp, Op.intBits, ban]), dri k _⟩
  | or => subst h; exact ⟨.int k (bor k x y), A _ _ (by simp [binOp, Op.intBits, bor]), dri k _⟩
  | xor => subst h; exact ⟨.int k (bxo k x y), A _ _ (by simp [binOp, Op.intBits, bxo]), dri k _⟩
  | andNot => subst h; exact ⟨.int k (bno k x y), A _ _ (by simp [binOp, Op.intBits, bno]), dri k _⟩
  | eql => subst h; exact ⟨.bool (eq x y), A _ _ (by simp [binOp, Op.intCmp, eq]), drb _⟩
  | neq => subst h; exact ⟨.bool (!eq x y), A _ _ (by simp [binOp, Op.intCmp, eq]; rfl), drb _⟩
  | lss => subst h; exact ⟨.bool (lt x y), A _ _ (by simp [binOp, Op.intCmp, lt]), drb _⟩
  | leq => subst h; exact ⟨.bool (le x y), A _ _ (by simp [binOp, Op.intCmp, le]), drb _⟩
  | gtr => subst h; exact ⟨.bool (lt y x), A _ _ (by simp [binOp, Op.intCmp, lt]), drb _⟩
  | geq => subst h; exact ⟨.bool (le y x), A _ _ (by simp [binOp, Op.intCmp, le]), drb _⟩
theorem run_shift {op : BinOp} {t : TypeId} {k k' : IntKind} {x y : Int} {d : D} (h : (binI op k x y).to d) (hs : op = .shl ∨ op = .shr) : ∃ v, (binOp op t (.int k x) (.int k' y)).run P w = .ok v w ∧ DR M d v := by
  have A : ∀ (s : Sem Value) (v : Value), s = pure v → s.run P w = .ok v w := fun s v e => by subst e; rfl
  rcases hs with rfl | rfl
  all_goals
    cases hy : lt y 0 with
    | true => exact (h.1 hy).elim
    | false =>
      have e := h.2 hy; subst e
      have h0 : ¬ y < 0 := by unfold lt at hy; simpa using hy
      first
        | exact ⟨.int k (sh k x y), A _ _ (by simp [binOp, Op.shift, sh, h0]), dri k _⟩
        | exact ⟨.int k (shr k x y), A _ _ (by simp [binOp, Op.shift, shr, h0]), dri k _⟩
end
end Go.AM
end
/- Equality of data, as the program's own text of a comparison goes. -/
section
set_option linter.constructorNameAsVariable false
set_option linter.unusedVariables false
set_option linter.unusedSimpArgs false
namespace Go.AM
/-- The cells of data without references. -/
def vals (t : Ty) (x : t.den) : List Value := (cs t x []).map val1
def mk (t : Ty) (x : t.den) : Value := if t.ag then .agg (vals t x).toArray else (vals t x).headD undef
def flatF (P : Program) (g : TypeId → Option Nat) : List Field → Nat → Option Nat
  | [], o => some o
  | f :: fs, o => if f.name ≠ "_" ∧ f.offset = o then match g f.type with | some s => if s = szT P f.type then flatF P g fs (o + s) else none | none => none else none
/-- So many integers of a kind, one behind the other. -/
def flat (P : Program) : Nat → TypeId → IntKind → Option Nat
  | 0, _, _ => none
  | n + 1, t, k => match P.underlying t with
    | some (.int k') => if k = k' then some 1 else none
    | some (.array m e) => match flat P n e k with | some s => if s = szT P e ∧ (P.info? e).isSome then some (m * s) else none | none => none
    | some (.struct fs) => if P.stoodInHeld t then none else flatF P (fun e => flat P n e k) fs.toList 0
    | _ => none
def deepF (P : Program) (g : TypeId → Ty → Bool) : List Field → Nat → Ty → Bool
  | [], _, .u => true
  | f :: fs, o, .p a b => decide (f.name ≠ "_") && f.offset == o && szT P f.type == a.sz && g f.type a && deepF P g fs (o + a.sz) b
  | _, _, _ => false
def deep (P : Program) : Nat → TypeId → Ty → Bool
  | 0, _, _ => false
  | n + 1, t, ty => match P.underlying t, ty with
    | some (.int k), .i k' => k == k'
    | some .bool, .b | some .string, .s => true
    | some (.struct fs), .p a b => !P.stoodInHeld t && deepF P (deep P n) fs.toList 0 (.p a b)
    | some (.array m e), .l m' u => m == m' && szT P e == u.sz && (P.info? e).isSome && deep P n e u
    | some (.struct fs), .a k N => flat P (n + 1) t k == some N
    | some (.array _ _), .a k N => flat P (n + 1) t k == some N
    | _, _ => false
section
variable {P : Program} {w : World}
def ints (k : IntKind) (l : List Int) : List Value := l.map fun n => .int k n
/-- A value of a type out of its cells. -/
def mkT (P : Program) (t : TypeId) (X : List Value) : Value := if aggT P t then .agg X.toArray else X.headD undef
theorem run_isAgg {t : TypeId} {d : TypeDesc} (h : P.underlying t = some d) : (Go.isAgg t).run P w = .ok (aggT P t) w := by
  unfold Go.isAgg aggT
  rw [Sem.run_bind, run_underlying h]
  cases d <;> simp [h, aggD]
theorem run_part {t : TypeId} {d : TypeDesc} {i : TypeInfo} (hu : P.underlying t = some d) (hi : P.info? t = some i) (cs : Array Value) (off : Nat) (pre mid post : List Value) (hc : cs.toList = pre ++ (mid ++ post)) (hp : pre.length = off)
    (hm : mid.length = szT P t) (h1 : aggT P t = false → mid.length = 1) : (part t cs off).run P w = .ok (mkT P t mid) w := by
  have hs : i.size = mid.length := by rw [hm]; simp [szT, hi]
  unfold part mkT
  rw [Sem.run_bind, run_isAgg hu]
  cases hag : aggT P t with
  | true =>
    simp only [Result.andThen_ok, if_true, Sem.run_bind]
    have e : (cs.extract off (off + i.size)) = mid.toArray := by
      apply Array.toList_inj.1
      rw [Array.toList_extract, hc, hs, ← hp]
      simp [List.extract_eq_take_drop]
    simp [sizeOf, typeInfo, hi, e]
  | false =>
    have h1' := h1 hag
    match mid, h1' with
    | [v], _ =>
      have e : cs[off]? = some v := by
        rw [← Array.getElem?_toList, hc, ← hp]; simp
      simp [e]
theorem vleq_app : ∀ {a b c d : List Value}, a.length = c.length → vleq (a ++ b) (c ++ d) = (vleq a c && vleq b d)
  | [], _, [], _, _ => by simp [vleq]
  | x :: a, b, y :: c, d, h => by simp [vleq, vleq_app (a := a) (c := c) (by simpa using h), Bool.and_assoc]
  | [], _, _ :: _, _, h => by simp at h
  | _ :: _, _, [], _, h => by simp at h

/-- .. of the parts of an array. -/
theorem run_items (d : Nat) (e : TypeId) (i : TypeInfo) (de : TypeDesc) (hu : P.underlying e = some de) (hi : P.info? e = some i) (c : Nat) (hc : c = szT P e) (h1 : aggT P e = false → c = 1) (xs ys : Array Value)
    (he : ∀ X Y : List Value, X ∈ [] ∨ True → X.length = c → Y.length = c → (∀ v ∈ X, v ∈ xs.toList) → (∀ v ∈ Y, v ∈ ys.toList) → (Op.equalIn d e (mkT P e X) (mkT P e Y)).run P w = .ok (vleq X Y) w) :
    ∀ (m j : Nat) (pre pre' X Y : List Value), xs.toList = pre ++ X → ys.toList = pre' ++ Y → pre.length = j * c → pre'.length = j * c → X.length = m * c → Y.length = m * c →
      (Op.eqItems d e c xs ys (List.range' j m)).run P w = .ok (vleq X Y) w := by
  intro m
  induction m with
  | zero =>
    intro j pre pre' X Y hx hy _ _ lx ly
    have e1 : X = [] := List.eq_nil_of_length_eq_zero (by simpa using lx)
    have e2 : Y = [] := List.eq_nil_of_length_eq_zero (by simpa using ly)
    subst e1; subst e2
    simp [Op.eqItems, vleq]
  | succ m ih =>
    intro j pre pre' X Y hx hy hp hp' lx ly
    have sx : X = X.take c ++ X.drop c := (List.take_append_drop c X).symm
    have sy : Y = Y.take c ++ Y.drop c := (List.take_append_drop c Y).symm
    have lx1 : (X.take c).length = c := by rw [List.length_take, lx, Nat.add_mul]; omega
    have ly1 : (Y.take c).length = c := by rw [List.length_take, ly, Nat.add_mul]; omega
    have r1 := run_part (P := P) (w := w) hu hi xs (j * c) pre (X.take c) (X.drop c) (by rw [hx, ← sx]) hp (by rw [lx1, hc]) (fun h => by rw [lx1]; exact h1 h)
    have r2 := run_part (P := P) (w := w) hu hi ys (j * c) pre' (Y.take c) (Y.drop c) (by rw [hy, ← sy]) hp' (by rw [ly1, hc]) (fun h => by rw [ly1]; exact h1 h)
    have r3 := he (X.take c) (Y.take c) (.inr trivial) lx1 ly1 (fun v hv => by rw [hx]; exact List.mem_append_right _ (List.mem_of_mem_take hv)) (fun v hv => by rw [hy]; exact List.mem_append_right _ (List.mem_of_mem_take hv))
    have r4 := ih (j + 1) (pre ++ X.take c) (pre' ++ Y.take c) (X.drop c) (Y.drop c) (by rw [List.append_assoc, ← sx]; exact hx) (by rw [List.append_assoc, ← sy]; exact hy) (by rw [List.length_append, hp, lx1, Nat.add_mul]; omega) (by rw [List.length_append, hp', ly1, Nat.add_mul]; omega) (by rw [List.length_drop, lx, Nat.add_mul]; omega) (by rw [List.length_drop, ly, Nat.add_mul]; omega)
    rw [List.range'_succ]
    simp only [Op.eqItems, Sem.run_bind, r1, r2, r3, Result.andThen_ok]
    conv => rhs; rw [sx, sy, vleq_app (by rw [lx1, ly1])]
    cases vleq (X.take c) (Y.take c) with
    | false => simp
    | true => simpa using r4

def Lay (P : Program) (w : World) (d : Nat) : List Field → Nat → List Value → List Value → Prop
  | [], _, X, Y => X = [] ∧ Y = []
  | f :: fs, o, X, Y => f.name ≠ "_" ∧ f.offset = o ∧ (P.info? f.type).isSome ∧ (P.underlying f.type).isSome ∧ ∃ X1 X2 Y1 Y2, X = X1 ++ X2 ∧ Y = Y1 ++ Y2 ∧ X1.length = szT P f.type ∧ Y1.length = szT P f.type ∧ (aggT P f.type = false → X1.length = 1) ∧
      (Op.equalIn d f.type (mkT P f.type X1) (mkT P f.type Y1)).run P w = .ok (vleq X1 Y1) w ∧ Lay P w d fs (o + X1.length) X2 Y2
theorem run_fields (d : Nat) (xs ys : Array Value) : ∀ (fs : List Field) (o : Nat) (X Y pre pre' : List Value), Lay P w d fs o X Y → xs.toList = pre ++ X → ys.toList = pre' ++ Y → pre.length = o → pre'.length = o →
    (Op.eqFields d xs ys fs).run P w = .ok (vleq X Y) w
  | [], _, X, Y, _, _, h, _, _, _, _ => by
    have h1 : X = [] := h.1
    have h2 : Y = [] := h.2
    subst h1; subst h2
    simp [Op.eqFields, vleq]
  | f :: fs, o, X, Y, pre, pre', h, hx, hy, hp, hp' => by
    obtain ⟨hn, ho, hi, hu, X1, X2, Y1, Y2, rfl, rfl, l1, l2, l3, he, hl⟩ := h
    obtain ⟨i, hi⟩ := Option.isSome_iff_exists.1 hi
    obtain ⟨du, hu⟩ := Option.isSome_iff_exists.1 hu
    have r1 := run_part (P := P) (w := w) hu hi xs f.offset pre X1 X2 hx (by rw [hp, ho]) l1 l3
    have r2 := run_part (P := P) (w := w) hu hi ys f.offset pre' Y1 Y2 hy (by rw [hp', ho]) l2 (fun h => by rw [l2, ← l1]; exact l3 h)
    have r4 := run_fields d xs ys fs (o + X1.length) X2 Y2 (pre ++ X1) (pre' ++ Y1) hl (by rw [List.append_assoc]; exact hx) (by rw [List.append_assoc]; exact hy) (by simp [hp]) (by simp [hp', l1, l2])
    simp only [Op.eqFields, ne_eq, hn, not_false_eq_true, if_true, Sem.run_bind, r1, r2, he, Result.andThen_ok]
    rw [vleq_app (by rw [l1, l2])]
    cases vleq X1 Y1 with
    | false => simp
    | true => simpa using r4
theorem cellsOf_szT {e : TypeId} : P.cellsOf e = szT P e := by
  unfold Program.cellsOf szT
  cases P.info? e <;> rfl
theorem flat_und {n : Nat} {t : TypeId} {k : IntKind} {s : Nat} (h : flat P n t k = some s) : (P.underlying t).isSome ∧ (aggT P t = false → s = 1) := by
  cases n with
  | zero => simp [flat] at h
  | succ n =>
    unfold flat at h
    cases hu : P.underlying t with
    | none => simp [hu] at h
    | some d =>
      refine ⟨rfl, fun ha => ?_⟩
      cases d <;> simp [hu, aggT, aggD] at h ha
      exact h.2.symm
theorem ints_len (k : IntKind) (l : List Int) : (ints k l).length = l.length := by simp [ints]
theorem ints_app (k : IntKind) (l m : List Int) : ints k (l ++ m) = ints k l ++ ints k m := by simp [ints]
theorem flat_eq : ∀ (n : Nat) (t : TypeId) (k : IntKind) (s : Nat), flat P n t k = some s → ∀ (X Y : List Int), X.length = s → Y.length = s → ∀ d, n ≤ d →
    (Op.equalIn d t (mkT P t (ints k X)) (mkT P t (ints k Y))).run P w = .ok (vleq (ints k X) (ints k Y)) w := by
  intro n
  induction n with
  | zero => intro t k s h; simp [flat] at h
  | succ n ih =>
    intro t k s h X Y lx ly d hd
    obtain ⟨d, rfl⟩ : ∃ d', d = d' + 1 := ⟨d - 1, by omega⟩
    unfold flat at h
    split at h
    · rename_i k' hu
      split at h
      · rename_i hk; subst hk
        simp at h; subst h
        match X, lx, Y, ly with
        | [a], _, [b], _ =>
          have ha : aggT P t = false := by simp [aggT, hu, aggD]
          simp only [mkT, ha, ints, List.map_cons, List.map_nil, List.headD_cons, Bool.false_eq_true, if_false]
          rw [run_equalIn_int w d t k k a b hu]
          simp [vleq, veq]
      · cases h
    · rename_i m e hu
      split at h
      · rename_i s' hs
        split at h
        · rename_i he
          simp at h; subst h
          obtain ⟨i, hi⟩ := Option.isSome_iff_exists.1 he.2
          have ha : aggT P t = true := by simp [aggT, hu, aggD]
          obtain ⟨hue, h1⟩ := flat_und hs
          obtain ⟨de, hue⟩ := Option.isSome_iff_exists.1 hue
          simp only [mkT, ha, if_true]
          rw [run_equalIn_array w d _ _ hu hi, cellsOf_szT, ← he.1, List.range_eq_range']
          refine run_items d e i de hue hi s' he.1 h1 _ _ ?_ m 0 [] [] (ints k X) (ints k Y) (by simp) (by simp) (by simp) (by simp) (by rw [ints_len, lx]) (by rw [ints_len, ly])
          intro X' Y' _ lx' ly' hx' hy'
          have get : ∀ (Z : List Value) (X : List Int), (∀ v ∈ Z, v ∈ (ints k X).toArray.toList) → ∃ Z', Z = ints k Z' := by
            intro Z X hZ
            refine ⟨Z.map (fun v => match v with | .int _ n => n | _ => 0), ?_⟩
            rw [ints, List.map_map]
            conv => lhs; rw [← List.map_id Z]
            refine List.map_congr_left fun v hv => ?_
            have := hZ v hv
            simp [ints] at this
            obtain ⟨q, _, rfl⟩ := this
            rfl
          obtain ⟨X'', rfl⟩ := get X' X hx'
          obtain ⟨Y'', rfl⟩ := get Y' Y hy'
          exact ih e k s' hs X'' Y'' (by rw [← lx', ints_len]) (by rw [← ly', ints_len]) d (by omega)
        · cases h
      · cases h
    · rename_i fs hu
      split at h
      · cases h
      · rename_i hst
        have ha : aggT P t = true := by simp [aggT, hu, aggD]
        simp only [mkT, ha, if_true]
        have hf : P.fieldsOf t = fs := by simp [Program.fieldsOf, hu]
        rw [run_equalIn_struct w d t _ _ (by rw [hf]; exact hu) (by simpa using hst), hf]
        have key : ∀ (gs : List Field) (o : Nat) (X Y : List Int), flatF P (fun e => flat P n e k) gs o = some (o + X.length) → X.length = Y.length → Lay P w d gs o (ints k X) (ints k Y) := by
          intro gs
          induction gs with
          | nil =>
            intro o X Y h hl
            simp [flatF] at h
            subst h
            have := List.eq_nil_of_length_eq_zero hl.symm
            subst this
            exact (⟨rfl, rfl⟩ : ints k [] = [] ∧ ints k [] = [])
          | cons f gs ihg =>
            intro o X Y h hl
            unfold flatF at h
            split at h
            · rename_i hfn
              split at h
              · rename_i s1 hs1
                split at h
                · rename_i hsz
                  obtain ⟨hue, h1⟩ := flat_und hs1
                  have mono : ∀ (gs : List Field) (o r : Nat), flatF P (fun e => flat P n e k) gs o = some r → o ≤ r := by
                    intro gs
                    induction gs with
                    | nil => intro o r h; simp [flatF] at h; omega
                    | cons f gs ih2 =>
                      intro o r h
                      unfold flatF at h
                      split at h
                      · split at h
                        · split at h
                          · exact Nat.le_trans (Nat.le_add_right _ _) (ih2 _ _ h)
                          · cases h
                        · cases h
                      · cases h
                  have hle := mono gs (o + s1) _ h
                  have hinfo : (P.info? f.type).isSome := by
                    obtain ⟨du, hdu⟩ := Option.isSome_iff_exists.1 hue
                    obtain ⟨i, hi⟩ := info_of_underlying hdu
                    simp [hi]
                  refine ⟨hfn.1, hfn.2, hinfo, hue, ints k (X.take s1), ints k (X.drop s1), ints k (Y.take s1), ints k (Y.drop s1), by rw [← ints_app, List.take_append_drop], by rw [← ints_app, List.take_append_drop], ?_, ?_, ?_, ?_, ?_⟩
                  · rw [ints_len, List.length_take, ← hsz]; omega
                  · rw [ints_len, List.length_take, ← hsz]; omega
                  · intro hag; rw [ints_len, List.length_take, h1 hag]; have := h1 hag; omega
                  · exact ih f.type k s1 hs1 _ _ (by rw [List.length_take]; omega) (by rw [List.length_take]; omega) d (by omega)
                  · have e1 : (ints k (X.take s1)).length = s1 := by rw [ints_len, List.length_take]; omega
                    rw [e1]
                    exact ihg (o + s1) _ _ (by rw [h, List.length_drop]; congr 1; omega) (by rw [List.length_drop, List.length_drop, hl])
                · cases h
              · cases h
            · cases h
        exact run_fields d _ _ fs.toList 0 (ints k X) (ints k Y) [] [] (key _ 0 X Y (by rw [h, lx]; simp) (by rw [lx, ly])) (by simp) (by simp) rfl rfl
    · cases h
end
end Go.AM
end
/- Equality of data, all of it. -/
section
set_option linter.constructorNameAsVariable false
set_option linter.unusedVariables false
set_option linter.unusedSimpArgs false
namespace Go.AM
section
variable {P : Program} {w : World}
theorem vals_len (t : Ty) (x : t.den) (hw : wf t x) : (vals t x).length = t.sz := by rw [vals, List.length_map, cs_len t x [] hw]
theorem vals_p (a b : Ty) (x : a.den × b.den) : vals (.p a b) x = vals a x.1 ++ vals b x.2 := by simp [vals, cs]
theorem vals_l (n : Nat) (t : Ty) (x : List t.den) : vals (.l n t) x = x.flatMap (vals t) := by
  show List.map val1 (x.flatMap fun y => cs t y []) = _
  rw [List.map_flatMap]
  rfl
theorem vals_a (k : IntKind) (n : Nat) (x : List Int) : vals (.a k n) x = ints k x := by
  show List.map val1 (x.map fun n => CS.v (.int k n)) = _
  simp [ints, val1]
theorem vleq_ints (k : IntKind) : ∀ (x y : List Int), x.length = y.length → List.beq x y = vleq (ints k x) (ints k y)
  | [], [], _ => rfl
  | a :: x, b :: y, h => by
    have := vleq_ints k x y (by simpa using h)
    simp only [ints, List.map_cons, vleq, veq, List.beq] at this ⊢
    rw [← this]
    simp [ints]
  | [], _ :: _, h => by simp at h
  | _ :: _, [], h => by simp at h
theorem vleq_flat (t : Ty) (he : ∀ x y : t.den, wf t x → wf t y → eqv t x y = vleq (vals t x) (vals t y)) : ∀ (x y : List t.den), x.length = y.length → (∀ z ∈ x, wf t z) → (∀ z ∈ y, wf t z) → ((x.zip y).all fun z => eqv t z.1 z.2) = vleq (x.flatMap (vals t)) (y.flatMap (vals t))
  | [], [], _, _, _ => rfl
  | a :: x, b :: y, h, hx, hy => by
    simp only [List.zip_cons_cons, List.all_cons, List.flatMap_cons]
    rw [vleq_app (by rw [vals_len _ _ (hx a (by simp)), vals_len _ _ (hy b (by simp))]), he a b (hx a (by simp)) (hy b (by simp)), vleq_flat t he x y (by simpa using h) (fun z hz => hx z (by simp [hz])) (fun z hz => hy z (by simp [hz]))]
  | [], _ :: _, h, _, _ => by simp at h
  | _ :: _, [], h, _, _ => by simp at h
theorem eqv_vals : ∀ (t : Ty) (x y : t.den), t.nr = 0 → wf t x → wf t y → eqv t x y = vleq (vals t x) (vals t y) := by
  intro t
  induction t with
  | i k => intro (x : Int) (y : Int) _ _ _; simp [eqv, vals, cs, val1, vleq, veq, eq]
  | b => intro (x : Bool) (y : Bool) _ _ _; simp [eqv, vals, cs, val1, vleq, veq]
  | s =>
    intro (x : ByteArray) (y : ByteArray) _ _ _
    simp [eqv, vals, cs, val1, vleq, veq, seq, ByteArray.toList_eq]
  | a k n => intro (x : List Int) (y : List Int) _ hx hy; rw [vals_a, vals_a, ← vleq_ints k x y (by rw [show x.length = n from hx, show y.length = n from hy])]; rfl
  | r k => intro x y h; simp [Ty.nr] at h
  | u => intro x y _ _ _; rfl
  | p a b iha ihb =>
    intro (x : a.den × b.den) (y : a.den × b.den) h hx hy
    simp only [Ty.nr] at h
    rw [vals_p, vals_p, vleq_app (by rw [vals_len _ _ hx.1, vals_len _ _ hy.1]), ← iha _ _ (by omega) hx.1 hy.1, ← ihb _ _ (by omega) hx.2 hy.2]
    cases b <;> simp [eqv]
  | l n t ih =>
    intro (x : List t.den) (y : List t.den) h hx hy
    rw [vals_l, vals_l, ← vleq_flat t (fun x y => ih x y hx.2.1) x y (by rw [hx.1, hy.1]) hx.2.2 hy.2.2]
    rfl
theorem mkT_vals {t : TypeId} {ty : Ty} (ha : aggT P t = ty.ag) (x : ty.den) : mkT P t (vals ty x) = mk ty x := by simp [mkT, mk, ha]
theorem deep_agg {n : Nat} {t : TypeId} {ty : Ty} (h : deep P n t ty = true) : aggT P t = ty.ag ∧ ∃ d, P.underlying t = some d := by
  cases n with
  | zero => simp [deep] at h
  | succ n =>
    unfold deep at h
    split at h <;> first | (rename_i hu; exact ⟨by simp [aggT, hu, aggD, Ty.ag], _, hu⟩) | simp at h
theorem ag_len {ty : Ty} (x : ty.den) (hw : wf ty x) (h : ty.ag = false) : (vals ty x).length = 1 := by
  rw [vals_len _ _ hw]
  cases ty <;> simp_all [Ty.ag, Ty.sz]
theorem run_itemsL (d : Nat) (e : TypeId) (i : TypeInfo) (de : TypeDesc) (u : Ty) (hu : P.underlying e = some de) (hi : P.info? e = some i) (hc : u.sz = szT P e) (ha : aggT P e = u.ag) (xs ys : Array Value)
    (he : ∀ x y : u.den, wf u x → wf u y → (Op.equalIn d e (mk u x) (mk u y)).run P w = .ok (vleq (vals u x) (vals u y)) w) :
    ∀ (X Y : List u.den) (j : Nat) (pre pre' : List Value), X.length = Y.length → (∀ z ∈ X, wf u z) → (∀ z ∈ Y, wf u z) → xs.toList = pre ++ X.flatMap (vals u) → ys.toList = pre' ++ Y.flatMap (vals u) → pre.length = j * u.sz → pre'.length = j * u.sz →
      (Op.eqItems d e u.sz xs ys (List.range' j X.length)).run P w = .ok (vleq (X.flatMap (vals u)) (Y.flatMap (vals u))) w
  | [], [], _, _, _, _, _, _, _, _, _, _ => by simp [Op.eqItems, vleq]
  | x :: X, y :: Y, j, pre, pre', hl, hx, hy, ex, ey, hp, hp' => by
    simp only [List.flatMap_cons] at ex ey
    have wx := hx x (by simp)
    have wy := hy y (by simp)
    have r1 := run_part (P := P) (w := w) hu hi xs (j * u.sz) pre (vals u x) _ ex hp (by rw [vals_len _ _ wx, hc]) (fun h => ag_len x wx (by rw [← ha, h]))
    have r2 := run_part (P := P) (w := w) hu hi ys (j * u.sz) pre' (vals u y) _ ey hp' (by rw [vals_len _ _ wy, hc]) (fun h => ag_len y wy (by rw [← ha, h]))
    rw [mkT_vals ha] at r1 r2
    have r3 := he x y wx wy
    have r4 := run_itemsL d e i de u hu hi hc ha xs ys he X Y (j + 1) (pre ++ vals u x) (pre' ++ vals u y) (by simpa using hl) (fun z hz => hx z (by simp [hz])) (fun z hz => hy z (by simp [hz])) (by rw [List.append_assoc]; exact ex) (by rw [List.append_assoc]; exact ey) (by rw [List.length_append, hp, vals_len _ _ wx, Nat.add_mul]; omega) (by rw [List.length_append, hp', vals_len _ _ wy, Nat.add_mul]; omega)
    rw [List.length_cons, List.range'_succ]
    simp only [Op.eqItems, Sem.run_bind, r1, r2, r3, Result.andThen_ok, List.flatMap_cons]
    rw [vleq_app (by rw [vals_len _ _ wx, vals_len _ _ wy])]
    cases vleq (vals u x) (vals u y) with
    | false => simp
    | true => simpa using r4
  | [], _ :: _, _, _, _, h, _, _, _, _, _, _ => by simp at h
  | _ :: _, [], _, _, _, h, _, _, _, _, _, _ => by simp at h
theorem deep_eq : ∀ (n : Nat) (t : TypeId) (ty : Ty), deep P n t ty = true → ∀ (x y : ty.den), wf ty x → wf ty y → ∀ d, n ≤ d →
    (Op.equalIn d t (mk ty x) (mk ty y)).run P w = .ok (vleq (vals ty x) (vals ty y)) w := by
  intro n
  induction n with
  | zero => intro t ty h; simp [deep] at h
  | succ n ih =>
    intro t ty h x y wx wy d hd
    obtain ⟨d, rfl⟩ : ∃ d', d = d' + 1 := ⟨d - 1, by omega⟩
    have hag := (deep_agg h).1
    unfold deep at h
    split at h
    · rename_i k k' hu
      have hk : k = k' := by simpa using h
      subst hk
      show (Op.equalIn (d + 1) t (.int k x) (.int k y)).run P w = _
      rw [run_equalIn_int w d t k k x y hu]
      simp [vals, cs, val1, vleq, veq]
    · rename_i hu
      show (Op.equalIn (d + 1) t (.bool x) (.bool y)).run P w = _
      rw [run_equalIn_bool' w d t x y hu]
      simp [vals, cs, val1, vleq, veq]
    · rename_i hu
      show (Op.equalIn (d + 1) t (.string x) (.string y)).run P w = _
      rw [run_equalIn_string w d t x y hu]
      simp [vals, cs, val1, vleq, veq, ByteArray.toList_eq]
    · rename_i fs a b hu
      simp only [Bool.and_eq_true] at h
      have hf : P.fieldsOf t = fs := by simp [Program.fieldsOf, hu]
      show (Op.equalIn (d + 1) t (.agg (vals (.p a b) x).toArray) (.agg (vals (.p a b) y).toArray)).run P w = _
      rw [run_equalIn_struct w d t _ _ (by rw [hf]; exact hu) (by simpa using h.1), hf]
      have key : ∀ (gs : List Field) (o : Nat) (ty : Ty) (x y : ty.den), deepF P (deep P n) gs o ty = true → wf ty x → wf ty y → Lay P w d gs o (vals ty x) (vals ty y) := by
        intro gs
        induction gs with
        | nil =>
          intro o ty x y h _ _
          cases ty <;> simp [deepF] at h
          exact (⟨rfl, rfl⟩ : vals .u x = [] ∧ vals .u y = [])
        | cons f gs ihg =>
          intro o ty x y h wx wy
          cases ty with
          | p a b =>
            simp only [deepF, Bool.and_eq_true, decide_eq_true_eq] at h
            obtain ⟨⟨⟨⟨h1, h2⟩, h3⟩, h4⟩, h5⟩ := h
            obtain ⟨hag, du, hdu⟩ := deep_agg h4
            obtain ⟨i, hi⟩ := info_of_underlying hdu
            have h3' : szT P f.type = a.sz := by simpa using h3
            rw [vals_p, vals_p]
            refine ⟨h1, by simpa using h2, by simp [hi], by simp [hdu], vals a x.1, vals b x.2, vals a y.1, vals b y.2, rfl, rfl, by rw [vals_len _ _ wx.1, h3'], by rw [vals_len _ _ wy.1, h3'], fun hf => ag_len x.1 wx.1 (by rw [← hag, hf]), ?_, ?_⟩
            · rw [mkT_vals hag, mkT_vals hag]; exact ih f.type a h4 x.1 y.1 wx.1 wy.1 d (by omega)
            · rw [vals_len _ _ wx.1]; exact ihg _ b x.2 y.2 h5 wx.2 wy.2
          | _ => simp [deepF] at h
      exact run_fields d _ _ fs.toList 0 _ _ [] [] (key _ 0 (.p a b) x y h.2 wx wy) (by simp) (by simp) rfl rfl
    · rename_i m e m' u hu
      simp only [Bool.and_eq_true] at h
      obtain ⟨⟨⟨h1, h2⟩, h3⟩, h4⟩ := h
      have h1' : m = m' := by simpa using h1
      have h2' : szT P e = u.sz := by simpa using h2
      subst h1'
      obtain ⟨i, hi⟩ := Option.isSome_iff_exists.1 h3
      obtain ⟨hag, de, hde⟩ := deep_agg h4
      show (Op.equalIn (d + 1) t (.agg (vals (.l m u) x).toArray) (.agg (vals (.l m u) y).toArray)).run P w = _
      rw [run_equalIn_array w d _ _ hu hi, cellsOf_szT, h2', List.range_eq_range', vals_l, vals_l]
      have := run_itemsL (P := P) (w := w) d e i de u hde hi h2'.symm hag (List.flatMap (vals u) x).toArray (List.flatMap (vals u) y).toArray (fun x y wx wy => ih e u h4 x y wx wy d (by omega)) x y 0 [] [] (by rw [wx.1, wy.1]) wx.2.2 wy.2.2 (by simp) (by simp) (by simp) (by simp)
      rw [wx.1] at this
      exact this
    all_goals first
      | (rename_i k N hu
         have h' : flat P (n + 1) t k = some N := by simpa using h
         have := flat_eq (P := P) (w := w) (n + 1) t k N h' x y wx wy (d + 1) hd
         rw [← vals_a k N x, ← vals_a k N y, mkT_vals hag, mkT_vals hag] at this
         exact this)
      | simp at h
end
end Go.AM
end
/- Tables of types, and the operators. -/
section
set_option linter.constructorNameAsVariable false
set_option linter.unusedVariables false
set_option linter.unusedSimpArgs false
namespace Go.AM
def flds : Ty → Nat → List (Nat × Nat × Bool) | .p a b, o => (o, a.sz, a.ag) :: flds b (o + a.sz) | _, _ => []
def known (P : Program) (t : TypeId) : Bool := (P.info? t).isSome && (P.underlying t).isSome
def wfT : Ty → Bool | .p a b => wfT a && wfT b | .l _ t => t.nr == 0 && wfT t | _ => true
def zeroOk (P : Program) (t : TypeId) (ty : Ty) : Bool :=
  match P.info? t with
  | some i => i.size == ty.sz && wfT ty && (match i.zero with | some z => isAgg z == ty.ag && vleq z.cells.toList ((cs ty (dfl ty) (drs ty)).map nilv) | none => false)
  | none => false
def tiOk (P : Program) (t : TypeId) (I : TI) : Bool :=
  zeroOk P t I.ty && (aggT P t == I.ty.ag) && (I.ty.nr != 0 || deep P 16 t I.ty) && (!I.ty.ag || !P.eqGuardType P.depth t) && match P.underlying t, I.ty with
  | some (.int k), .i k' => k == k'
  | some .bool, .b | some .string, .s | some (.pointer _), .r .p => true
  | some (.slice e), .r .s => I.e == e && I.et.nr == 0 && decide (0 < I.et.sz) && decide (I.et.sz * 8 < 4096) && known P e && (aggT P e == I.et.ag) && zeroOk P e I.et && (match P.info? e with | some i => decide (0 < i.bytes) && decide (i.bytes ≤ 16384) | none => false)
  | some (.struct fs), .p a b => fs.toList.all (fun f => known P f.type) && (fs.toList.map fun f => (f.offset, szT P f.type, aggT P f.type)) == flds (.p a b) 0 && (flds (.p a b) 0).all fun x => decide (0 < x.2.1)
  | some (.struct fs), .a k n => I.n == 0 && fs.toList.all (fun f => known P f.type) && (fs.toList.map fun f => (f.offset, szT P f.type, aggT P f.type)) == (I.fs.map fun x => (x.1, x.2.getD 1, x.2.isSome)) && I.fs.all fun x => decide (0 < x.2.getD 1) && decide (x.1 + x.2.getD 1 ≤ n)
  | some (.array m e), .l n u => I.n == m && n == m && known P e && szT P e == u.sz && (aggT P e == u.ag) && decide (0 < u.sz)
  | some (.array m e), .a k n => I.fs.isEmpty && I.n == m && known P e && szT P e == I.esz && I.esz == I.el.getD 1 && (aggT P e == I.el.isSome) && decide (0 < I.esz) && n == m * I.esz
  | _, _ => false
/-- The tables fit the program. -/
def methOk (P : Program) (t : TypeId) (s : String) (f : FuncId) : Bool :=
  match P.info? t with
  | some i => match i.methods.find? (·.name == s) with
    | some m => m.path.isEmpty && (match m.func, P.underlying t with | some (g, z), some d => g == f && (match d with | .pointer _ => z | _ => !z) | _, _ => false)
    | none => false
  | none => false
structure TOk (P : Program) (E : Env) : Prop where
  ti : ∀ t I, E.ti t = some I → tiOk P t I = true
  itf : ∀ t, E.itf t = true → ∃ ms, P.underlying t = some (.interface ms)
  me : ∀ t s f, E.m t s = some f → methOk P t s f = true

section
variable {P : Program} {F : Nat → Prop} {w0 w : World} {N : Nat} {U : Nat → Prop} {T : Nat → D} {h : Nat → Blk} {ι : Nat → Option (Nat × Nat × Nat)} {a : Act} {Q : Exit → Act → World → Prop} {M : Wd} {E : Env}
theorem Env.ty_some {t : TypeId} {u : Ty} (h : E.ty t = some u) : ∃ I, E.ti t = some I ∧ I.ty = u := by
  unfold Env.ty at h
  cases hi : E.ti t with
  | none => simp [hi] at h
  | some I => exact ⟨I, rfl, by simpa [hi] using h⟩
/-- What a table's row says, whatever its kind. -/
theorem tok_base (K : TOk P E) {t : TypeId} {I : TI} (h : E.ti t = some I) : zeroOk P t I.ty = true ∧ aggT P t = I.ty.ag ∧ (I.ty.nr = 0 → deep P 16 t I.ty = true) ∧ (I.ty.ag = true → P.eqGuardType P.depth t = false) ∧ ∃ d, P.underlying t = some d := by
  have := K.ti t I h
  unfold tiOk at this
  simp only [Bool.and_eq_true] at this
  obtain ⟨⟨⟨⟨h1, h2⟩, h3⟩, h4⟩, h5⟩ := this
  refine ⟨h1, by simpa using h2, fun hn => by simpa [hn] using h3, fun ha => by simpa [ha] using h4, ?_⟩
  cases hu : P.underlying t with
  | none => simp [hu] at h5
  | some d => exact ⟨d, rfl⟩
theorem tok_size (K : TOk P E) {t : TypeId} {I : TI} (h : E.ti t = some I) : ∃ i, P.info? t = some i ∧ i.size = I.ty.sz ∧ szT P t = I.ty.sz := by
  have hz := (tok_base K h).1
  unfold zeroOk at hz
  cases hi : P.info? t with
  | none => simp [hi] at hz
  | some i =>
    simp only [hi, Bool.and_eq_true] at hz
    have h1 : i.size = I.ty.sz := by simpa using hz.1.1
    exact ⟨i, rfl, h1, by simp [szT, hi, h1]⟩
theorem dr_mk {t : Ty} {x : t.den} {v : Value} (hn : t.nr = 0) (hd : DR M (.v t x []) v) : v = mk t x ∧ wf t x := by
  obtain ⟨h1, h2, h3, h4⟩ := hd
  have key : ∀ (l : List CS) (m : List Value), (∀ c ∈ l, ∃ x, c = .v x) → All2 (CR M) l m → m = l.map val1 := by
    intro l
    induction l with
    | nil => intro m _ h; cases m with | nil => rfl | cons _ _ => exact h.elim
    | cons c l ih =>
      intro m hc h
      cases m with
      | nil => exact h.elim
      | cons v m =>
        obtain ⟨x, rfl⟩ := hc c (by simp)
        rw [ih m (fun c hc' => hc c (by simp [hc'])) h.2]
        have : v = x := h.1
        rw [this]; rfl
  have allv : ∀ (t : Ty) (x : t.den) (rs : List Ref), t.nr = 0 → wf t x → ∀ c ∈ cs t x rs, ∃ y, c = .v y := by
    intro t
    induction t with
    | p a b iha ihb =>
      intro x rs hn hw c hc
      simp only [Ty.nr] at hn
      simp only [cs, List.mem_append] at hc
      rcases hc with hc | hc
      · exact iha _ _ (by omega) hw.1 c hc
      · exact ihb _ _ (by omega) hw.2 c hc
    | l n t ih =>
      intro (x : List t.den) rs hn hw c hc
      have hc' : c ∈ x.flatMap (fun y => cs t y []) := hc
      obtain ⟨y, hm, hy⟩ := List.mem_flatMap.1 hc'
      exact ih _ _ hw.2.1 (hw.2.2 y hm) c hy
    | r k => intro x rs hn; simp [Ty.nr] at hn
    | a k n => intro x rs hn _ c hc; simp only [cs, List.mem_map] at hc; obtain ⟨y, _, rfl⟩ := hc; exact ⟨_, rfl⟩
    | u => intro x rs hn _ c hc; simp [cs] at hc
    | _ => intro x rs hn _ c hc; simp only [cs, List.mem_singleton] at hc; exact ⟨_, hc⟩
  have e := key _ _ (allv t x [] hn h1) h4
  refine ⟨?_, h1⟩
  have ev : vals t x = v.cells.toList := e.symm
  unfold mk
  cases hag : t.ag with
  | true =>
    rw [hag] at h3
    cases v <;> simp [AM.isAgg] at h3
    simp [ev, Value.cells]
  | false =>
    rw [hag] at h3
    have hv : v.cells = #[v] := by cases v <;> first | rfl | simp [AM.isAgg] at h3
    simp [ev, hv]
end
end Go.AM
end
