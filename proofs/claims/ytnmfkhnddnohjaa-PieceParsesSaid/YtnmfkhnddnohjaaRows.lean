/-
  No cell of these rows narrows 'for every input' (looked for: loops, veiled, ifaces, maps, wideKeys, modest, calm, conditions, laid).
  DERIVED. THE GIVEN ROWS OF THIS SEAT. 7 by the template 'for every input the law returns true; each argument reads behind the call as it read before'; 0 by the template 'total and deterministic' (their statements: YtnmfkhnddnohjaaTotals.lean).
  GIVEN WITH THE SEED: the statements are not yours to turn. If you find one false, say at which input.
  Laid BY PROGRAM, IN A SANDBOX (cutbox-rows.mjs): the forced cells as the released guide's own fill.sh prints them over the translation 6b7b5e760e264075… (all of the seat's roots in one cut). By AI agents, Wed Nov 11 2026. No macro, syntax, notation, axiom, sorry.
-/
import Derived.Test.YtnmfkhnddnohjaaChecked
import GoSem.Claim
import GoSem.ClaimJoined
import GoSem.ClaimMapViews
import Derived.JoinedTies
import Derived.KernelRfl
namespace Go.Proofs.Ytnmfkhnddnohjaa
/- THE CELL 'sum', in the pinned program and in every row, IS THE sha256 OF THE DUMP (.gsa) THAT YtnmfkhnddnohjaaProg.lean LOADS. Nothing in Lean hashes anything: it is a label: what it is worth is what the hold of that sum in a sandbox is worth. -/
noncomputable def Try.pinned : Pinned := { name := "ytnmfkhnddnohjaa", sum := "6b7b5e760e2640759d2a794d23bf35d2474b691839b56a69241c85ea4e42befe", checked := Try.checked }
namespace Rows
def none {H : Type} : Left H := { results := [], args := [] }

/-- 'kakugyolaw02.PieceKinds': WHATEVER THE INPUT: true; the input reads as it did. -/
def pieceKindsSpec : ChangeSpec := { name := "pieceKinds", fn := fun _ => fun
  | [d] => { results := [.lit (.bool true)], args := [d] }
  | _ => none }
def pieceKindsRow : OpenClaim := { program := "ytnmfkhnddnohjaa", sum := "6b7b5e760e2640759d2a794d23bf35d2474b691839b56a69241c85ea4e42befe", func := "kakugyo/kakugyolaw02.PieceKinds", spec := "pieceKinds", apart := false }
def PieceKindsSaid : Prop := pieceKindsRow.holds Try.pinned (OpenSpec.ofChange pieceKindsSpec)

/-- ITS FALSE NEIGHBOUR: 'it returns false'. Refute it at one input. -/
def pieceKindsWrong : ChangeSpec := { name := "pieceKinds", fn := fun _ => fun
  | [d] => { results := [.lit (.bool false)], args := [d] }
  | _ => none }
def PieceKindsWrongFalsely : Prop := pieceKindsRow.holds Try.pinned (OpenSpec.ofChange pieceKindsWrong)

/-- 'kakugyolaw02.PieceSigns': WHATEVER THE INPUT: true; the input reads as it did. -/
def pieceSignsSpec : ChangeSpec := { name := "pieceSigns", fn := fun _ => fun
  | [d1, d2] => { results := [.lit (.bool true)], args := [d1, d2] }
  | _ => none }
def pieceSignsRow : OpenClaim := { program := "ytnmfkhnddnohjaa", sum := "6b7b5e760e2640759d2a794d23bf35d2474b691839b56a69241c85ea4e42befe", func := "kakugyo/kakugyolaw02.PieceSigns", spec := "pieceSigns", apart := false }
def PieceSignsSaid : Prop := pieceSignsRow.holds Try.pinned (OpenSpec.ofChange pieceSignsSpec)

/-- ITS FALSE NEIGHBOUR: 'it returns false'. Refute it at one input. -/
def pieceSignsWrong : ChangeSpec := { name := "pieceSigns", fn := fun _ => fun
  | [d1, d2] => { results := [.lit (.bool false)], args := [d1, d2] }
  | _ => none }
def PieceSignsWrongFalsely : Prop := pieceSignsRow.holds Try.pinned (OpenSpec.ofChange pieceSignsWrong)

/-- 'kakugyolaw02.PieceOf': WHATEVER THE INPUT: true; the input reads as it did. -/
def pieceOfSpec : ChangeSpec := { name := "pieceOf", fn := fun _ => fun
  | [d1, d2] => { results := [.lit (.bool true)], args := [d1, d2] }
  | _ => none }
def pieceOfRow : OpenClaim := { program := "ytnmfkhnddnohjaa", sum := "6b7b5e760e2640759d2a794d23bf35d2474b691839b56a69241c85ea4e42befe", func := "kakugyo/kakugyolaw02.PieceOf", spec := "pieceOf", apart := false }
def PieceOfSaid : Prop := pieceOfRow.holds Try.pinned (OpenSpec.ofChange pieceOfSpec)

/-- ITS FALSE NEIGHBOUR: 'it returns false'. Refute it at one input. -/
def pieceOfWrong : ChangeSpec := { name := "pieceOf", fn := fun _ => fun
  | [d1, d2] => { results := [.lit (.bool false)], args := [d1, d2] }
  | _ => none }
def PieceOfWrongFalsely : Prop := pieceOfRow.holds Try.pinned (OpenSpec.ofChange pieceOfWrong)

/-- 'kakugyolaw02.PieceSet': WHATEVER THE INPUT: true; the input reads as it did. -/
def pieceSetSpec : ChangeSpec := { name := "pieceSet", fn := fun _ => fun
  | [d] => { results := [.lit (.bool true)], args := [d] }
  | _ => none }
def pieceSetRow : OpenClaim := { program := "ytnmfkhnddnohjaa", sum := "6b7b5e760e2640759d2a794d23bf35d2474b691839b56a69241c85ea4e42befe", func := "kakugyo/kakugyolaw02.PieceSet", spec := "pieceSet", apart := false }
def PieceSetSaid : Prop := pieceSetRow.holds Try.pinned (OpenSpec.ofChange pieceSetSpec)

/-- ITS FALSE NEIGHBOUR: 'it returns false'. Refute it at one input. -/
def pieceSetWrong : ChangeSpec := { name := "pieceSet", fn := fun _ => fun
  | [d] => { results := [.lit (.bool false)], args := [d] }
  | _ => none }
def PieceSetWrongFalsely : Prop := pieceSetRow.holds Try.pinned (OpenSpec.ofChange pieceSetWrong)

/-- 'kakugyolaw02.PieceUp': WHATEVER THE INPUT: true; the input reads as it did. -/
def pieceUpSpec : ChangeSpec := { name := "pieceUp", fn := fun _ => fun
  | [d] => { results := [.lit (.bool true)], args := [d] }
  | _ => none }
def pieceUpRow : OpenClaim := { program := "ytnmfkhnddnohjaa", sum := "6b7b5e760e2640759d2a794d23bf35d2474b691839b56a69241c85ea4e42befe", func := "kakugyo/kakugyolaw02.PieceUp", spec := "pieceUp", apart := false }
def PieceUpSaid : Prop := pieceUpRow.holds Try.pinned (OpenSpec.ofChange pieceUpSpec)

/-- ITS FALSE NEIGHBOUR: 'it returns false'. Refute it at one input. -/
def pieceUpWrong : ChangeSpec := { name := "pieceUp", fn := fun _ => fun
  | [d] => { results := [.lit (.bool false)], args := [d] }
  | _ => none }
def PieceUpWrongFalsely : Prop := pieceUpRow.holds Try.pinned (OpenSpec.ofChange pieceUpWrong)

/-- 'kakugyolaw02.PieceParses': WHATEVER THE INPUT: true; the input reads as it did. -/
def pieceParsesSpec : ChangeSpec := { name := "pieceParses", fn := fun _ => fun
  | [d1, d2] => { results := [.lit (.bool true)], args := [d1, d2] }
  | _ => none }
def pieceParsesRow : OpenClaim := { program := "ytnmfkhnddnohjaa", sum := "6b7b5e760e2640759d2a794d23bf35d2474b691839b56a69241c85ea4e42befe", func := "kakugyo/kakugyolaw02.PieceParses", spec := "pieceParses", apart := false }
def PieceParsesSaid : Prop := pieceParsesRow.holds Try.pinned (OpenSpec.ofChange pieceParsesSpec)

/-- ITS FALSE NEIGHBOUR: 'it returns false'. Refute it at one input. -/
def pieceParsesWrong : ChangeSpec := { name := "pieceParses", fn := fun _ => fun
  | [d1, d2] => { results := [.lit (.bool false)], args := [d1, d2] }
  | _ => none }
def PieceParsesWrongFalsely : Prop := pieceParsesRow.holds Try.pinned (OpenSpec.ofChange pieceParsesWrong)

/-- 'kakugyolaw02.PieceNames': WHATEVER THE INPUT: true; the input reads as it did. -/
def pieceNamesSpec : ChangeSpec := { name := "pieceNames", fn := fun _ => fun
  | [d1, d2] => { results := [.lit (.bool true)], args := [d1, d2] }
  | _ => none }
def pieceNamesRow : OpenClaim := { program := "ytnmfkhnddnohjaa", sum := "6b7b5e760e2640759d2a794d23bf35d2474b691839b56a69241c85ea4e42befe", func := "kakugyo/kakugyolaw02.PieceNames", spec := "pieceNames", apart := false }
def PieceNamesSaid : Prop := pieceNamesRow.holds Try.pinned (OpenSpec.ofChange pieceNamesSpec)

/-- ITS FALSE NEIGHBOUR: 'it returns false'. Refute it at one input. -/
def pieceNamesWrong : ChangeSpec := { name := "pieceNames", fn := fun _ => fun
  | [d1, d2] => { results := [.lit (.bool false)], args := [d1, d2] }
  | _ => none }
def PieceNamesWrongFalsely : Prop := pieceNamesRow.holds Try.pinned (OpenSpec.ofChange pieceNamesWrong)

/- THE SECOND FORM. 'bulk': how many values and letters a reading holds, each counted each time it is reached (what is shared counts as often as it is met; a slice's spare places count too). A statement '..UptoSaid' is the law's where the arguments, and the package variables that the reading takes, are together of bulk at most 1048576: NARROWER than '..Said'. Prove '..Said' where nothing that the law and all that it calls make is longer than what came in: it says more and counts as full. Else prove '..UptoSaid'. A law counts once. -/
mutual
def uptoBulk {H : Type} : DataW H → Nat
  | .lit (.string bytes) => bytes.length + 1
  | .lit _ => 1
  | .nil => 1
  | .ptr d => uptoBulk d + 1
  | .slice elems spare => uptoBulkAll elems + uptoBulkAll spare + 1
  | .agg parts => uptoBulkAll parts + 1
  | .iface _ d => uptoBulk d + 1
  | .map entries => uptoBulkEntries entries + 1
  | .held _ => 1
def uptoBulkAll {H : Type} : List (DataW H) → Nat
  | [] => 0
  | d :: r => uptoBulk d + uptoBulkAll r
def uptoBulkEntries {H : Type} : List (Lit × DataW H) → Nat
  | [] => 0
  | x :: r => uptoBulkEntry x + uptoBulkEntries r
def uptoBulkEntry {H : Type} : Lit × DataW H → Nat
  | (.string bytes, d) => bytes.length + uptoBulk d + 1
  | (_, d) => uptoBulk d + 1
 end
def uptoSmall : (H : Type) → List (DataW H) → Bool := fun _ ds => decide (uptoBulkAll ds ≤ 1048576)
def OpenSpec.upto (s : _root_.Go.ChangeSpec) : _root_.Go.OpenSpec := { _root_.Go.OpenSpec.ofChange s with cond := some uptoSmall }

/-- 'kakugyolaw02.PieceKinds', WHERE WHAT IT READS IS OF BULK AT MOST 1048576: true; the input reads as it did. -/
def pieceKindsUptoRow : OpenClaim := { program := "ytnmfkhnddnohjaa", sum := "6b7b5e760e2640759d2a794d23bf35d2474b691839b56a69241c85ea4e42befe", func := "kakugyo/kakugyolaw02.PieceKinds", spec := "pieceKinds", apart := false, narrowed := true }
def PieceKindsUptoSaid : Prop := pieceKindsUptoRow.holds Try.pinned (OpenSpec.upto pieceKindsSpec)

/-- 'kakugyolaw02.PieceSigns', WHERE WHAT IT READS IS OF BULK AT MOST 1048576: true; the input reads as it did. -/
def pieceSignsUptoRow : OpenClaim := { program := "ytnmfkhnddnohjaa", sum := "6b7b5e760e2640759d2a794d23bf35d2474b691839b56a69241c85ea4e42befe", func := "kakugyo/kakugyolaw02.PieceSigns", spec := "pieceSigns", apart := false, narrowed := true }
def PieceSignsUptoSaid : Prop := pieceSignsUptoRow.holds Try.pinned (OpenSpec.upto pieceSignsSpec)

/-- 'kakugyolaw02.PieceOf', WHERE WHAT IT READS IS OF BULK AT MOST 1048576: true; the input reads as it did. -/
def pieceOfUptoRow : OpenClaim := { program := "ytnmfkhnddnohjaa", sum := "6b7b5e760e2640759d2a794d23bf35d2474b691839b56a69241c85ea4e42befe", func := "kakugyo/kakugyolaw02.PieceOf", spec := "pieceOf", apart := false, narrowed := true }
def PieceOfUptoSaid : Prop := pieceOfUptoRow.holds Try.pinned (OpenSpec.upto pieceOfSpec)

/-- 'kakugyolaw02.PieceSet', WHERE WHAT IT READS IS OF BULK AT MOST 1048576: true; the input reads as it did. -/
def pieceSetUptoRow : OpenClaim := { program := "ytnmfkhnddnohjaa", sum := "6b7b5e760e2640759d2a794d23bf35d2474b691839b56a69241c85ea4e42befe", func := "kakugyo/kakugyolaw02.PieceSet", spec := "pieceSet", apart := false, narrowed := true }
def PieceSetUptoSaid : Prop := pieceSetUptoRow.holds Try.pinned (OpenSpec.upto pieceSetSpec)

/-- 'kakugyolaw02.PieceUp', WHERE WHAT IT READS IS OF BULK AT MOST 1048576: true; the input reads as it did. -/
def pieceUpUptoRow : OpenClaim := { program := "ytnmfkhnddnohjaa", sum := "6b7b5e760e2640759d2a794d23bf35d2474b691839b56a69241c85ea4e42befe", func := "kakugyo/kakugyolaw02.PieceUp", spec := "pieceUp", apart := false, narrowed := true }
def PieceUpUptoSaid : Prop := pieceUpUptoRow.holds Try.pinned (OpenSpec.upto pieceUpSpec)

/-- 'kakugyolaw02.PieceParses', WHERE WHAT IT READS IS OF BULK AT MOST 1048576: true; the input reads as it did. -/
def pieceParsesUptoRow : OpenClaim := { program := "ytnmfkhnddnohjaa", sum := "6b7b5e760e2640759d2a794d23bf35d2474b691839b56a69241c85ea4e42befe", func := "kakugyo/kakugyolaw02.PieceParses", spec := "pieceParses", apart := false, narrowed := true }
def PieceParsesUptoSaid : Prop := pieceParsesUptoRow.holds Try.pinned (OpenSpec.upto pieceParsesSpec)

/-- 'kakugyolaw02.PieceNames', WHERE WHAT IT READS IS OF BULK AT MOST 1048576: true; the input reads as it did. -/
def pieceNamesUptoRow : OpenClaim := { program := "ytnmfkhnddnohjaa", sum := "6b7b5e760e2640759d2a794d23bf35d2474b691839b56a69241c85ea4e42befe", func := "kakugyo/kakugyolaw02.PieceNames", spec := "pieceNames", apart := false, narrowed := true }
def PieceNamesUptoSaid : Prop := pieceNamesUptoRow.holds Try.pinned (OpenSpec.upto pieceNamesSpec)

end Rows
end Go.Proofs.Ytnmfkhnddnohjaa
