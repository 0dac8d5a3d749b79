/-
  DERIVED. GIVEN WITH THE SEED: THE CARDS: each row of YtmoeodcmfjnihaaDoorRows.lean that lists a variable, with what it lists TIED to the program's text (the seventh form; the later family's looks); each row that meets fmt, with fmt's text TOLD by the authors' own Lean function (tested against real Go, not proved from fmt's source: count such statements apart). THE CARD IS WHAT COUNTS. Prove the row's statement (the work); the ties are given (YtmoeodcmfjnihaaDoorTie.lean); close each card by the builder's one call (the guide's Derived/Test/ToyasCard.lean, 'card_holds'). Laid BY PROGRAM, IN A SANDBOX (cutbox-door.mjs). By AI agents, Wed Nov 11 2026. No macro, syntax, notation, axiom, sorry.
-/
import Derived.Test.YtmoeodcmfjnihaaDoorRows
import GoSem.ClaimSeven
namespace Go.Proofs.YtmoeodcmfjnihaaDoor
namespace Rows

/-- THE TIED CARD OF 'kakugyolaw01.SetPuts'. -/
def setPutsCard : Claim7 := { stood := { row := setPutsRow, standIns := [], harness := (true, "002adea5108e70b1927dfdd216104aae6135e778cf195a03a5b542afe744f969"), looks := false }, kinds := [], alts := [], laidByText := true, laidKinds := [.data], laidTests := true, laidLooks := .later }
def SetPutsCardSaid : Prop := Claim7.holds Tryd.pinned (.plain (OpenSpec.ofChange setPutsSpec)) setPutsCard

/-- THE TIED CARD OF 'kakugyolaw01.SetLines'. -/
def setLinesCard : Claim7 := { stood := { row := setLinesRow, standIns := [], harness := (true, "002adea5108e70b1927dfdd216104aae6135e778cf195a03a5b542afe744f969"), looks := false }, kinds := [], alts := [], laidByText := true, laidKinds := [.data], laidTests := true, laidLooks := .later }
def SetLinesCardSaid : Prop := Claim7.holds Tryd.pinned (.plain (OpenSpec.ofChange setLinesSpec)) setLinesCard

/-- THE TIED CARD OF 'kakugyolaw01.SetSquares'. -/
def setSquaresCard : Claim7 := { stood := { row := setSquaresRow, standIns := [], harness := (true, "002adea5108e70b1927dfdd216104aae6135e778cf195a03a5b542afe744f969"), looks := false }, kinds := [], alts := [], laidByText := true, laidKinds := [.data], laidTests := true, laidLooks := .later }
def SetSquaresCardSaid : Prop := Claim7.holds Tryd.pinned (.plain (OpenSpec.ofChange setSquaresSpec)) setSquaresCard

/-- THE TIED CARD OF 'kakugyolaw03.StepEdges'. -/
def stepEdgesCard : Claim7 := { stood := { row := stepEdgesRow, standIns := [], harness := (true, "002adea5108e70b1927dfdd216104aae6135e778cf195a03a5b542afe744f969"), looks := false }, kinds := [], alts := [], laidByText := true, laidKinds := [.data], laidTests := true, laidLooks := .later }
def StepEdgesCardSaid : Prop := Claim7.holds Tryd.pinned (.plain (OpenSpec.ofChange stepEdgesSpec)) stepEdgesCard

/-- THE SECOND FORM's CARD OF 'kakugyolaw01.SetPuts'. -/
def setPutsUptoCard : Claim7 := { stood := { row := setPutsUptoRow, standIns := [], harness := (true, "002adea5108e70b1927dfdd216104aae6135e778cf195a03a5b542afe744f969"), looks := false }, kinds := [], alts := [], laidByText := true, laidKinds := [.data], laidTests := true, laidLooks := .later }
def SetPutsUptoCardSaid : Prop := Claim7.holds Tryd.pinned (.plain (OpenSpec.upto setPutsSpec)) setPutsUptoCard

/-- THE SECOND FORM's CARD OF 'kakugyolaw01.SetLines'. -/
def setLinesUptoCard : Claim7 := { stood := { row := setLinesUptoRow, standIns := [], harness := (true, "002adea5108e70b1927dfdd216104aae6135e778cf195a03a5b542afe744f969"), looks := false }, kinds := [], alts := [], laidByText := true, laidKinds := [.data], laidTests := true, laidLooks := .later }
def SetLinesUptoCardSaid : Prop := Claim7.holds Tryd.pinned (.plain (OpenSpec.upto setLinesSpec)) setLinesUptoCard

/-- THE SECOND FORM's CARD OF 'kakugyolaw01.SetSquares'. -/
def setSquaresUptoCard : Claim7 := { stood := { row := setSquaresUptoRow, standIns := [], harness := (true, "002adea5108e70b1927dfdd216104aae6135e778cf195a03a5b542afe744f969"), looks := false }, kinds := [], alts := [], laidByText := true, laidKinds := [.data], laidTests := true, laidLooks := .later }
def SetSquaresUptoCardSaid : Prop := Claim7.holds Tryd.pinned (.plain (OpenSpec.upto setSquaresSpec)) setSquaresUptoCard

/-- THE SECOND FORM's CARD OF 'kakugyolaw03.StepEdges'. -/
def stepEdgesUptoCard : Claim7 := { stood := { row := stepEdgesUptoRow, standIns := [], harness := (true, "002adea5108e70b1927dfdd216104aae6135e778cf195a03a5b542afe744f969"), looks := false }, kinds := [], alts := [], laidByText := true, laidKinds := [.data], laidTests := true, laidLooks := .later }
def StepEdgesUptoCardSaid : Prop := Claim7.holds Tryd.pinned (.plain (OpenSpec.upto stepEdgesSpec)) stepEdgesUptoCard
end Rows
end Go.Proofs.YtmoeodcmfjnihaaDoor
