/-
  DERIVED. GIVEN WITH THE SEED: THE CARDS: each row of YtgeignldbgncbaaGreatDoorRows.lean that lists a variable, with what it lists TIED to the program's text (the seventh form; the later family's looks); each row that meets fmt, with fmt's text TOLD by the authors' own Lean function (tested against real Go, not proved from fmt's source: count such statements apart). THE CARD IS WHAT COUNTS. Prove the row's statement (the work); the ties are given (YtgeignldbgncbaaGreatDoorTie.lean); close each card by the builder's one call (the guide's Derived/Test/ToyasCard.lean, 'card_holds'). Laid BY PROGRAM, IN A SANDBOX (cutbox-door.mjs). By AI agents, Wed Nov 11 2026. No macro, syntax, notation, axiom, sorry.
-/
import Derived.Test.YtgeignldbgncbaaGreatDoorRows
import GoSem.ClaimSeven
namespace Go.Proofs.YtgeignldbgncbaaGreatDoor
namespace Rows

/-- THE TIED CARD OF 'kakugyolaw22.TokenNumbers'. -/
def tokenNumbersCard : Claim7 := { stood := { row := tokenNumbersRow, standIns := [], harness := (true, "ed0f3df321c25c847e2fdf9dc8f79735cb0a9f34a8b35c4ea34d630bc7cf346c"), looks := true }, kinds := [], alts := [], laidByText := true, laidKinds := [.data, .data, .data, .data, .sentinel, .sentinel, .pinned], laidTests := true, laidLooks := .later }
def TokenNumbersCardSaid : Prop := Claim7.holds Tryz.pinned (.plain (OpenSpec.ofChange tokenNumbersSpec)) tokenNumbersCard

/-- THE TIED CARD OF 'kakugyolaw22.TokenParses'. -/
def tokenParsesCard : Claim7 := { stood := { row := tokenParsesRow, standIns := [], harness := (true, "ed0f3df321c25c847e2fdf9dc8f79735cb0a9f34a8b35c4ea34d630bc7cf346c"), looks := true }, kinds := [], alts := [], laidByText := true, laidKinds := [.data, .data, .data, .data, .sentinel, .sentinel, .pinned], laidTests := true, laidLooks := .later }
def TokenParsesCardSaid : Prop := Claim7.holds Tryz.pinned (.plain (OpenSpec.ofChange tokenParsesSpec)) tokenParsesCard

/-- THE TIED CARD OF 'kakugyolaw22.TokenBlanks'. -/
def tokenBlanksCard : Claim7 := { stood := { row := tokenBlanksRow, standIns := [], harness := (true, "ed0f3df321c25c847e2fdf9dc8f79735cb0a9f34a8b35c4ea34d630bc7cf346c"), looks := true }, kinds := [], alts := [], laidByText := true, laidKinds := [.data, .data, .data, .data, .sentinel, .sentinel, .pinned], laidTests := true, laidLooks := .later }
def TokenBlanksCardSaid : Prop := Claim7.holds Tryz.pinned (.plain (OpenSpec.ofChange tokenBlanksSpec)) tokenBlanksCard

/-- THE TIED CARD OF 'kakugyolaw22.TokenKinds'. -/
def tokenKindsCard : Claim7 := { stood := { row := tokenKindsRow, standIns := [], harness := (true, "ed0f3df321c25c847e2fdf9dc8f79735cb0a9f34a8b35c4ea34d630bc7cf346c"), looks := true }, kinds := [], alts := [], laidByText := true, laidKinds := [.data, .data, .data, .data, .sentinel, .sentinel, .pinned], laidTests := true, laidLooks := .later }
def TokenKindsCardSaid : Prop := Claim7.holds Tryz.pinned (.plain (OpenSpec.ofChange tokenKindsSpec)) tokenKindsCard

/-- THE TIED CARD OF 'kakugyolaw22.TokenPositions'. -/
def tokenPositionsCard : Claim7 := { stood := { row := tokenPositionsRow, standIns := [], harness := (true, "ed0f3df321c25c847e2fdf9dc8f79735cb0a9f34a8b35c4ea34d630bc7cf346c"), looks := true }, kinds := [], alts := [], laidByText := true, laidKinds := [.data, .data, .data, .data, .sentinel, .sentinel, .pinned], laidTests := true, laidLooks := .later }
def TokenPositionsCardSaid : Prop := Claim7.holds Tryz.pinned (.plain (OpenSpec.ofChange tokenPositionsSpec)) tokenPositionsCard

/-- THE SECOND FORM's CARD OF 'kakugyolaw22.TokenNumbers'. -/
def tokenNumbersUptoCard : Claim7 := { stood := { row := tokenNumbersUptoRow, standIns := [], harness := (true, "ed0f3df321c25c847e2fdf9dc8f79735cb0a9f34a8b35c4ea34d630bc7cf346c"), looks := true }, kinds := [], alts := [], laidByText := true, laidKinds := [.data, .data, .data, .data, .sentinel, .sentinel, .pinned], laidTests := true, laidLooks := .later }
def TokenNumbersUptoCardSaid : Prop := Claim7.holds Tryz.pinned (.plain (OpenSpec.upto tokenNumbersSpec)) tokenNumbersUptoCard

/-- THE SECOND FORM's CARD OF 'kakugyolaw22.TokenParses'. -/
def tokenParsesUptoCard : Claim7 := { stood := { row := tokenParsesUptoRow, standIns := [], harness := (true, "ed0f3df321c25c847e2fdf9dc8f79735cb0a9f34a8b35c4ea34d630bc7cf346c"), looks := true }, kinds := [], alts := [], laidByText := true, laidKinds := [.data, .data, .data, .data, .sentinel, .sentinel, .pinned], laidTests := true, laidLooks := .later }
def TokenParsesUptoCardSaid : Prop := Claim7.holds Tryz.pinned (.plain (OpenSpec.upto tokenParsesSpec)) tokenParsesUptoCard

/-- THE SECOND FORM's CARD OF 'kakugyolaw22.TokenBlanks'. -/
def tokenBlanksUptoCard : Claim7 := { stood := { row := tokenBlanksUptoRow, standIns := [], harness := (true, "ed0f3df321c25c847e2fdf9dc8f79735cb0a9f34a8b35c4ea34d630bc7cf346c"), looks := true }, kinds := [], alts := [], laidByText := true, laidKinds := [.data, .data, .data, .data, .sentinel, .sentinel, .pinned], laidTests := true, laidLooks := .later }
def TokenBlanksUptoCardSaid : Prop := Claim7.holds Tryz.pinned (.plain (OpenSpec.upto tokenBlanksSpec)) tokenBlanksUptoCard

/-- THE SECOND FORM's CARD OF 'kakugyolaw22.TokenKinds'. -/
def tokenKindsUptoCard : Claim7 := { stood := { row := tokenKindsUptoRow, standIns := [], harness := (true, "ed0f3df321c25c847e2fdf9dc8f79735cb0a9f34a8b35c4ea34d630bc7cf346c"), looks := true }, kinds := [], alts := [], laidByText := true, laidKinds := [.data, .data, .data, .data, .sentinel, .sentinel, .pinned], laidTests := true, laidLooks := .later }
def TokenKindsUptoCardSaid : Prop := Claim7.holds Tryz.pinned (.plain (OpenSpec.upto tokenKindsSpec)) tokenKindsUptoCard

/-- THE SECOND FORM's CARD OF 'kakugyolaw22.TokenPositions'. -/
def tokenPositionsUptoCard : Claim7 := { stood := { row := tokenPositionsUptoRow, standIns := [], harness := (true, "ed0f3df321c25c847e2fdf9dc8f79735cb0a9f34a8b35c4ea34d630bc7cf346c"), looks := true }, kinds := [], alts := [], laidByText := true, laidKinds := [.data, .data, .data, .data, .sentinel, .sentinel, .pinned], laidTests := true, laidLooks := .later }
def TokenPositionsUptoCardSaid : Prop := Claim7.holds Tryz.pinned (.plain (OpenSpec.upto tokenPositionsSpec)) tokenPositionsUptoCard
end Rows
end Go.Proofs.YtgeignldbgncbaaGreatDoor
