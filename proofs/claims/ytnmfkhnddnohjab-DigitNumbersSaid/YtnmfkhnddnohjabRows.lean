/-
  No cell of these rows narrows 'for every input' (looked for: loops, veiled, ifaces, maps, wideKeys, modest, calm, conditions, laid).
  DERIVED. THE GIVEN ROWS OF THIS SEAT. 6 by the template 'for every input the law returns true; each argument reads behind the call as it read before'; 0 by the template 'total and deterministic' (their statements: YtnmfkhnddnohjabTotals.lean).
  GIVEN WITH THE SEED: the statements are not yours to turn. If you find one false, say at which input.
  Laid BY PROGRAM, IN A SANDBOX (cutbox-rows.mjs): the forced cells as the released guide's own fill.sh prints them over the translation 7058a702c4731fd2… (all of the seat's roots in one cut). By AI agents, Wed Nov 11 2026. No macro, syntax, notation, axiom, sorry.
-/
import Derived.Test.YtnmfkhnddnohjabChecked
import GoSem.Claim
import GoSem.ClaimJoined
import GoSem.ClaimMapViews
import Derived.JoinedTies
import Derived.KernelRfl
namespace Go.Proofs.Ytnmfkhnddnohjab
/- THE CELL 'sum', in the pinned program and in every row, IS THE sha256 OF THE DUMP (.gsa) THAT YtnmfkhnddnohjabProg.lean LOADS. Nothing in Lean hashes anything: it is a label: what it is worth is what the hold of that sum in a sandbox is worth. -/
noncomputable def Try.pinned : Pinned := { name := "ytnmfkhnddnohjab", sum := "7058a702c4731fd2c77ad675d28e3e891b89cd4d7e6e4567531d7a012c86e9f9", checked := Try.checked }
namespace Rows
def none {H : Type} : Left H := { results := [], args := [] }

/-- 'kakugyolaw15.DigitSigns': WHATEVER THE INPUT: true; the input reads as it did. -/
def digitSignsSpec : ChangeSpec := { name := "digitSigns", fn := fun _ => fun
  | [d] => { results := [.lit (.bool true)], args := [d] }
  | _ => none }
def digitSignsRow : OpenClaim := { program := "ytnmfkhnddnohjab", sum := "7058a702c4731fd2c77ad675d28e3e891b89cd4d7e6e4567531d7a012c86e9f9", func := "kakugyo/kakugyolaw15.DigitSigns", spec := "digitSigns", apart := false }
def DigitSignsSaid : Prop := digitSignsRow.holds Try.pinned (OpenSpec.ofChange digitSignsSpec)

/-- ITS FALSE NEIGHBOUR: 'it returns false'. Refute it at one input. -/
def digitSignsWrong : ChangeSpec := { name := "digitSigns", fn := fun _ => fun
  | [d] => { results := [.lit (.bool false)], args := [d] }
  | _ => none }
def DigitSignsWrongFalsely : Prop := digitSignsRow.holds Try.pinned (OpenSpec.ofChange digitSignsWrong)

/-- 'kakugyolaw15.DigitRunes': WHATEVER THE INPUT: true; the input reads as it did. -/
def digitRunesSpec : ChangeSpec := { name := "digitRunes", fn := fun _ => fun
  | [d] => { results := [.lit (.bool true)], args := [d] }
  | _ => none }
def digitRunesRow : OpenClaim := { program := "ytnmfkhnddnohjab", sum := "7058a702c4731fd2c77ad675d28e3e891b89cd4d7e6e4567531d7a012c86e9f9", func := "kakugyo/kakugyolaw15.DigitRunes", spec := "digitRunes", apart := false }
def DigitRunesSaid : Prop := digitRunesRow.holds Try.pinned (OpenSpec.ofChange digitRunesSpec)

/-- ITS FALSE NEIGHBOUR: 'it returns false'. Refute it at one input. -/
def digitRunesWrong : ChangeSpec := { name := "digitRunes", fn := fun _ => fun
  | [d] => { results := [.lit (.bool false)], args := [d] }
  | _ => none }
def DigitRunesWrongFalsely : Prop := digitRunesRow.holds Try.pinned (OpenSpec.ofChange digitRunesWrong)

/-- 'kakugyolaw15.DigitSquares': WHATEVER THE INPUT: true; the input reads as it did. -/
def digitSquaresSpec : ChangeSpec := { name := "digitSquares", fn := fun _ => fun
  | [d1, d2] => { results := [.lit (.bool true)], args := [d1, d2] }
  | _ => none }
def digitSquaresRow : OpenClaim := { program := "ytnmfkhnddnohjab", sum := "7058a702c4731fd2c77ad675d28e3e891b89cd4d7e6e4567531d7a012c86e9f9", func := "kakugyo/kakugyolaw15.DigitSquares", spec := "digitSquares", apart := false }
def DigitSquaresSaid : Prop := digitSquaresRow.holds Try.pinned (OpenSpec.ofChange digitSquaresSpec)

/-- ITS FALSE NEIGHBOUR: 'it returns false'. Refute it at one input. -/
def digitSquaresWrong : ChangeSpec := { name := "digitSquares", fn := fun _ => fun
  | [d1, d2] => { results := [.lit (.bool false)], args := [d1, d2] }
  | _ => none }
def DigitSquaresWrongFalsely : Prop := digitSquaresRow.holds Try.pinned (OpenSpec.ofChange digitSquaresWrong)

/-- 'kakugyolaw15.DigitCuts': WHATEVER THE INPUT: true; the input reads as it did. -/
def digitCutsSpec : ChangeSpec := { name := "digitCuts", fn := fun _ => fun
  | [d] => { results := [.lit (.bool true)], args := [d] }
  | _ => none }
def digitCutsRow : OpenClaim := { program := "ytnmfkhnddnohjab", sum := "7058a702c4731fd2c77ad675d28e3e891b89cd4d7e6e4567531d7a012c86e9f9", func := "kakugyo/kakugyolaw15.DigitCuts", spec := "digitCuts", apart := false }
def DigitCutsSaid : Prop := digitCutsRow.holds Try.pinned (OpenSpec.ofChange digitCutsSpec)

/-- ITS FALSE NEIGHBOUR: 'it returns false'. Refute it at one input. -/
def digitCutsWrong : ChangeSpec := { name := "digitCuts", fn := fun _ => fun
  | [d] => { results := [.lit (.bool false)], args := [d] }
  | _ => none }
def DigitCutsWrongFalsely : Prop := digitCutsRow.holds Try.pinned (OpenSpec.ofChange digitCutsWrong)

/-- 'kakugyolaw15.DigitNumbers': WHATEVER THE INPUT: true; the input reads as it did. -/
def digitNumbersSpec : ChangeSpec := { name := "digitNumbers", fn := fun _ => fun
  | [d1, d2] => { results := [.lit (.bool true)], args := [d1, d2] }
  | _ => none }
def digitNumbersRow : OpenClaim := { program := "ytnmfkhnddnohjab", sum := "7058a702c4731fd2c77ad675d28e3e891b89cd4d7e6e4567531d7a012c86e9f9", func := "kakugyo/kakugyolaw15.DigitNumbers", spec := "digitNumbers", apart := false }
def DigitNumbersSaid : Prop := digitNumbersRow.holds Try.pinned (OpenSpec.ofChange digitNumbersSpec)

/-- ITS FALSE NEIGHBOUR: 'it returns false'. Refute it at one input. -/
def digitNumbersWrong : ChangeSpec := { name := "digitNumbers", fn := fun _ => fun
  | [d1, d2] => { results := [.lit (.bool false)], args := [d1, d2] }
  | _ => none }
def DigitNumbersWrongFalsely : Prop := digitNumbersRow.holds Try.pinned (OpenSpec.ofChange digitNumbersWrong)

/-- 'kakugyolaw15.DigitRows': WHATEVER THE INPUT: true; the input reads as it did. -/
def digitRowsSpec : ChangeSpec := { name := "digitRows", fn := fun _ => fun
  | [d1, d2] => { results := [.lit (.bool true)], args := [d1, d2] }
  | _ => none }
def digitRowsRow : OpenClaim := { program := "ytnmfkhnddnohjab", sum := "7058a702c4731fd2c77ad675d28e3e891b89cd4d7e6e4567531d7a012c86e9f9", func := "kakugyo/kakugyolaw15.DigitRows", spec := "digitRows", apart := false }
def DigitRowsSaid : Prop := digitRowsRow.holds Try.pinned (OpenSpec.ofChange digitRowsSpec)

/-- ITS FALSE NEIGHBOUR: 'it returns false'. Refute it at one input. -/
def digitRowsWrong : ChangeSpec := { name := "digitRows", fn := fun _ => fun
  | [d1, d2] => { results := [.lit (.bool false)], args := [d1, d2] }
  | _ => none }
def DigitRowsWrongFalsely : Prop := digitRowsRow.holds Try.pinned (OpenSpec.ofChange digitRowsWrong)

/- THE SECOND FORM. 'bulk': how many values and letters a reading holds, each counted each time it is reached (what is shared counts as often as it is met; a slice's spare places count too). A statement '..UptoSaid' is the law's where the arguments, and the package variables that the reading takes, are together of bulk at most 1048576: NARROWER than '..Said'. Prove '..Said' where nothing that the law and all that it calls make is longer than what came in: it says more and counts as full. Else prove '..UptoSaid'. A law counts once. -/
mutual
def uptoBulk {H : Type} : DataW H → Nat
  | .lit (.string bytes) => bytes.length + 1
  | .lit _ => 1
  | .nil => 1
  | .ptr d => uptoBulk d + 1
  | .slice elems spare => uptoBulkAll elems + uptoBulkAll spare + 1
  | .agg parts => uptoBulkAll parts + 1
  | .iface _ d => uptoBulk d + 1
  | .map entries => uptoBulkEntries entries + 1
  | .held _ => 1
def uptoBulkAll {H : Type} : List (DataW H) → Nat
  | [] => 0
  | d :: r => uptoBulk d + uptoBulkAll r
def uptoBulkEntries {H : Type} : List (Lit × DataW H) → Nat
  | [] => 0
  | x :: r => uptoBulkEntry x + uptoBulkEntries r
def uptoBulkEntry {H : Type} : Lit × DataW H → Nat
  | (.string bytes, d) => bytes.length + uptoBulk d + 1
  | (_, d) => uptoBulk d + 1
 end
def uptoSmall : (H : Type) → List (DataW H) → Bool := fun _ ds => decide (uptoBulkAll ds ≤ 1048576)
def OpenSpec.upto (s : _root_.Go.ChangeSpec) : _root_.Go.OpenSpec := { _root_.Go.OpenSpec.ofChange s with cond := some uptoSmall }

/-- 'kakugyolaw15.DigitSigns', WHERE WHAT IT READS IS OF BULK AT MOST 1048576: true; the input reads as it did. -/
def digitSignsUptoRow : OpenClaim := { program := "ytnmfkhnddnohjab", sum := "7058a702c4731fd2c77ad675d28e3e891b89cd4d7e6e4567531d7a012c86e9f9", func := "kakugyo/kakugyolaw15.DigitSigns", spec := "digitSigns", apart := false, narrowed := true }
def DigitSignsUptoSaid : Prop := digitSignsUptoRow.holds Try.pinned (OpenSpec.upto digitSignsSpec)

/-- 'kakugyolaw15.DigitRunes', WHERE WHAT IT READS IS OF BULK AT MOST 1048576: true; the input reads as it did. -/
def digitRunesUptoRow : OpenClaim := { program := "ytnmfkhnddnohjab", sum := "7058a702c4731fd2c77ad675d28e3e891b89cd4d7e6e4567531d7a012c86e9f9", func := "kakugyo/kakugyolaw15.DigitRunes", spec := "digitRunes", apart := false, narrowed := true }
def DigitRunesUptoSaid : Prop := digitRunesUptoRow.holds Try.pinned (OpenSpec.upto digitRunesSpec)

/-- 'kakugyolaw15.DigitSquares', WHERE WHAT IT READS IS OF BULK AT MOST 1048576: true; the input reads as it did. -/
def digitSquaresUptoRow : OpenClaim := { program := "ytnmfkhnddnohjab", sum := "7058a702c4731fd2c77ad675d28e3e891b89cd4d7e6e4567531d7a012c86e9f9", func := "kakugyo/kakugyolaw15.DigitSquares", spec := "digitSquares", apart := false, narrowed := true }
def DigitSquaresUptoSaid : Prop := digitSquaresUptoRow.holds Try.pinned (OpenSpec.upto digitSquaresSpec)

/-- 'kakugyolaw15.DigitCuts', WHERE WHAT IT READS IS OF BULK AT MOST 1048576: true; the input reads as it did. -/
def digitCutsUptoRow : OpenClaim := { program := "ytnmfkhnddnohjab", sum := "7058a702c4731fd2c77ad675d28e3e891b89cd4d7e6e4567531d7a012c86e9f9", func := "kakugyo/kakugyolaw15.DigitCuts", spec := "digitCuts", apart := false, narrowed := true }
def DigitCutsUptoSaid : Prop := digitCutsUptoRow.holds Try.pinned (OpenSpec.upto digitCutsSpec)

/-- 'kakugyolaw15.DigitNumbers', WHERE WHAT IT READS IS OF BULK AT MOST 1048576: true; the input reads as it did. -/
def digitNumbersUptoRow : OpenClaim := { program := "ytnmfkhnddnohjab", sum := "7058a702c4731fd2c77ad675d28e3e891b89cd4d7e6e4567531d7a012c86e9f9", func := "kakugyo/kakugyolaw15.DigitNumbers", spec := "digitNumbers", apart := false, narrowed := true }
def DigitNumbersUptoSaid : Prop := digitNumbersUptoRow.holds Try.pinned (OpenSpec.upto digitNumbersSpec)

/-- 'kakugyolaw15.DigitRows', WHERE WHAT IT READS IS OF BULK AT MOST 1048576: true; the input reads as it did. -/
def digitRowsUptoRow : OpenClaim := { program := "ytnmfkhnddnohjab", sum := "7058a702c4731fd2c77ad675d28e3e891b89cd4d7e6e4567531d7a012c86e9f9", func := "kakugyo/kakugyolaw15.DigitRows", spec := "digitRows", apart := false, narrowed := true }
def DigitRowsUptoSaid : Prop := digitRowsUptoRow.holds Try.pinned (OpenSpec.upto digitRowsSpec)

end Rows
end Go.Proofs.Ytnmfkhnddnohjab
