/-
  DERIVED. GIVEN WITH THE SEED: THE CARDS: each row of YtigenhbmgpfffaaGreatDoorRows.lean that lists a variable, with what it lists TIED to the program's text (the seventh form; the later family's looks); each row that meets fmt, with fmt's text TOLD by the authors' own Lean function (tested against real Go, not proved from fmt's source: count such statements apart). THE CARD IS WHAT COUNTS. Prove the row's statement (the work); the ties are given (YtigenhbmgpfffaaGreatDoorTie.lean); close each card by the builder's one call (the guide's Derived/Test/ToyasCard.lean, 'card_holds'). Laid BY PROGRAM, IN A SANDBOX (cutbox-door.mjs). By AI agents, Wed Nov 11 2026. No macro, syntax, notation, axiom, sorry.
-/
import Derived.Test.YtigenhbmgpfffaaGreatDoorRows
import GoSem.ClaimSeven
namespace Go.Proofs.YtigenhbmgpfffaaGreatDoor
namespace Rows

/-- THE TIED CARD OF 'kakugyolaw13.SfenPrints'. -/
def sfenPrintsCard : Claim7 := { stood := { row := sfenPrintsRow, standIns := [], harness := (true, "e8aadc3a479c12a29403ad4e32d13b3524568857ad8dda9bb6e666de1a9c6d95"), looks := true }, kinds := [], alts := [], laidByText := true, laidKinds := [.data, .data, .data, .data, .sentinel, .sentinel, .pinned], laidTests := true, laidLooks := .later }
def SfenPrintsCardSaid : Prop := Claim7.holds Tryz.pinned (.plain (OpenSpec.ofChange sfenPrintsSpec)) sfenPrintsCard

/-- THE TIED CARD OF 'kakugyolaw13.SfenParses'. -/
def sfenParsesCard : Claim7 := { stood := { row := sfenParsesRow, standIns := [], harness := (true, "e8aadc3a479c12a29403ad4e32d13b3524568857ad8dda9bb6e666de1a9c6d95"), looks := true }, kinds := [], alts := [], laidByText := true, laidKinds := [.data, .data, .data, .data, .sentinel, .sentinel, .pinned], laidTests := true, laidLooks := .later }
def SfenParsesCardSaid : Prop := Claim7.holds Tryz.pinned (.plain (OpenSpec.ofChange sfenParsesSpec)) sfenParsesCard

/-- THE TIED CARD OF 'kakugyolaw13.SfenApart'. -/
def sfenApartCard : Claim7 := { stood := { row := sfenApartRow, standIns := [], harness := (true, "e8aadc3a479c12a29403ad4e32d13b3524568857ad8dda9bb6e666de1a9c6d95"), looks := true }, kinds := [], alts := [], laidByText := true, laidKinds := [.data, .data, .data, .data, .sentinel, .sentinel, .pinned], laidTests := true, laidLooks := .later }
def SfenApartCardSaid : Prop := Claim7.holds Tryz.pinned (.plain (OpenSpec.ofChange sfenApartSpec)) sfenApartCard

/-- THE TIED CARD OF 'kakugyolaw13.SfenBroken'. -/
def sfenBrokenCard : Claim7 := { stood := { row := sfenBrokenRow, standIns := [], harness := (true, "e8aadc3a479c12a29403ad4e32d13b3524568857ad8dda9bb6e666de1a9c6d95"), looks := true }, kinds := [], alts := [], laidByText := true, laidKinds := [.data, .data, .data, .data, .sentinel, .sentinel, .pinned], laidTests := true, laidLooks := .later }
def SfenBrokenCardSaid : Prop := Claim7.holds Tryz.pinned (.plain (OpenSpec.ofChange sfenBrokenSpec)) sfenBrokenCard

/-- THE TIED CARD OF 'kakugyolaw13.SfenNumbers'. -/
def sfenNumbersCard : Claim7 := { stood := { row := sfenNumbersRow, standIns := [], harness := (true, "e8aadc3a479c12a29403ad4e32d13b3524568857ad8dda9bb6e666de1a9c6d95"), looks := true }, kinds := [], alts := [], laidByText := true, laidKinds := [.data, .data, .data, .data, .sentinel, .sentinel, .pinned], laidTests := true, laidLooks := .later }
def SfenNumbersCardSaid : Prop := Claim7.holds Tryz.pinned (.plain (OpenSpec.ofChange sfenNumbersSpec)) sfenNumbersCard

/-- THE TIED CARD OF 'kakugyolaw13.SfenHands'. -/
def sfenHandsCard : Claim7 := { stood := { row := sfenHandsRow, standIns := [], harness := (true, "e8aadc3a479c12a29403ad4e32d13b3524568857ad8dda9bb6e666de1a9c6d95"), looks := true }, kinds := [], alts := [], laidByText := true, laidKinds := [.data, .data, .data, .data, .sentinel, .sentinel, .pinned], laidTests := true, laidLooks := .later }
def SfenHandsCardSaid : Prop := Claim7.holds Tryz.pinned (.plain (OpenSpec.ofChange sfenHandsSpec)) sfenHandsCard

/-- THE SECOND FORM's CARD OF 'kakugyolaw13.SfenPrints'. -/
def sfenPrintsUptoCard : Claim7 := { stood := { row := sfenPrintsUptoRow, standIns := [], harness := (true, "e8aadc3a479c12a29403ad4e32d13b3524568857ad8dda9bb6e666de1a9c6d95"), looks := true }, kinds := [], alts := [], laidByText := true, laidKinds := [.data, .data, .data, .data, .sentinel, .sentinel, .pinned], laidTests := true, laidLooks := .later }
def SfenPrintsUptoCardSaid : Prop := Claim7.holds Tryz.pinned (.plain (OpenSpec.upto sfenPrintsSpec)) sfenPrintsUptoCard

/-- THE SECOND FORM's CARD OF 'kakugyolaw13.SfenParses'. -/
def sfenParsesUptoCard : Claim7 := { stood := { row := sfenParsesUptoRow, standIns := [], harness := (true, "e8aadc3a479c12a29403ad4e32d13b3524568857ad8dda9bb6e666de1a9c6d95"), looks := true }, kinds := [], alts := [], laidByText := true, laidKinds := [.data, .data, .data, .data, .sentinel, .sentinel, .pinned], laidTests := true, laidLooks := .later }
def SfenParsesUptoCardSaid : Prop := Claim7.holds Tryz.pinned (.plain (OpenSpec.upto sfenParsesSpec)) sfenParsesUptoCard

/-- THE SECOND FORM's CARD OF 'kakugyolaw13.SfenApart'. -/
def sfenApartUptoCard : Claim7 := { stood := { row := sfenApartUptoRow, standIns := [], harness := (true, "e8aadc3a479c12a29403ad4e32d13b3524568857ad8dda9bb6e666de1a9c6d95"), looks := true }, kinds := [], alts := [], laidByText := true, laidKinds := [.data, .data, .data, .data, .sentinel, .sentinel, .pinned], laidTests := true, laidLooks := .later }
def SfenApartUptoCardSaid : Prop := Claim7.holds Tryz.pinned (.plain (OpenSpec.upto sfenApartSpec)) sfenApartUptoCard

/-- THE SECOND FORM's CARD OF 'kakugyolaw13.SfenBroken'. -/
def sfenBrokenUptoCard : Claim7 := { stood := { row := sfenBrokenUptoRow, standIns := [], harness := (true, "e8aadc3a479c12a29403ad4e32d13b3524568857ad8dda9bb6e666de1a9c6d95"), looks := true }, kinds := [], alts := [], laidByText := true, laidKinds := [.data, .data, .data, .data, .sentinel, .sentinel, .pinned], laidTests := true, laidLooks := .later }
def SfenBrokenUptoCardSaid : Prop := Claim7.holds Tryz.pinned (.plain (OpenSpec.upto sfenBrokenSpec)) sfenBrokenUptoCard

/-- THE SECOND FORM's CARD OF 'kakugyolaw13.SfenNumbers'. -/
def sfenNumbersUptoCard : Claim7 := { stood := { row := sfenNumbersUptoRow, standIns := [], harness := (true, "e8aadc3a479c12a29403ad4e32d13b3524568857ad8dda9bb6e666de1a9c6d95"), looks := true }, kinds := [], alts := [], laidByText := true, laidKinds := [.data, .data, .data, .data, .sentinel, .sentinel, .pinned], laidTests := true, laidLooks := .later }
def SfenNumbersUptoCardSaid : Prop := Claim7.holds Tryz.pinned (.plain (OpenSpec.upto sfenNumbersSpec)) sfenNumbersUptoCard

/-- THE SECOND FORM's CARD OF 'kakugyolaw13.SfenHands'. -/
def sfenHandsUptoCard : Claim7 := { stood := { row := sfenHandsUptoRow, standIns := [], harness := (true, "e8aadc3a479c12a29403ad4e32d13b3524568857ad8dda9bb6e666de1a9c6d95"), looks := true }, kinds := [], alts := [], laidByText := true, laidKinds := [.data, .data, .data, .data, .sentinel, .sentinel, .pinned], laidTests := true, laidLooks := .later }
def SfenHandsUptoCardSaid : Prop := Claim7.holds Tryz.pinned (.plain (OpenSpec.upto sfenHandsSpec)) sfenHandsUptoCard
end Rows
end Go.Proofs.YtigenhbmgpfffaaGreatDoor
