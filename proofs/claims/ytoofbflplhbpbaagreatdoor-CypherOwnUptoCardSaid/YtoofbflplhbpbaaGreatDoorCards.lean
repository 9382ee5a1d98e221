/-
  DERIVED. GIVEN WITH THE SEED: THE CARDS: each row of YtoofbflplhbpbaaGreatDoorRows.lean that lists a variable, with what it lists TIED to the program's text (the seventh form; the later family's looks); each row that meets fmt, with fmt's text TOLD by the authors' own Lean function (tested against real Go, not proved from fmt's source: count such statements apart). THE CARD IS WHAT COUNTS. Prove the row's statement (the work); the ties are given (YtoofbflplhbpbaaGreatDoorTie.lean); close each card by the builder's one call (the guide's Derived/Test/ToyasCard.lean, 'card_holds'). Laid BY PROGRAM, IN A SANDBOX (cutbox-door.mjs). By AI agents, Wed Nov 11 2026. No macro, syntax, notation, axiom, sorry.
-/
import Derived.Test.YtoofbflplhbpbaaGreatDoorRows
import GoSem.ClaimSeven
namespace Go.Proofs.YtoofbflplhbpbaaGreatDoor
namespace Rows

/-- THE TIED CARD OF 'satchellaw22.CellGrows'. -/
def cellGrowsCard : Claim7 := { stood := { row := cellGrowsRow, standIns := [], harness := (true, "67c8b976c79fb325ff386ae21669de5262b6ce761c5faf23824594dda4bc28cc"), looks := true }, kinds := [], alts := [], laidByText := true, laidKinds := [.data, .data, .data, .data, .sentinel, .sentinel, .pinned], laidTests := true, laidLooks := .later }
def CellGrowsCardSaid : Prop := Claim7.holds Tryz.pinned (.plain (OpenSpec.ofChange cellGrowsSpec)) cellGrowsCard

/-- THE TIED CARD OF 'satchellaw25.CypherLiterals'. -/
def cypherLiteralsCard : Claim7 := { stood := { row := cypherLiteralsRow, standIns := [], harness := (true, "67c8b976c79fb325ff386ae21669de5262b6ce761c5faf23824594dda4bc28cc"), looks := true }, kinds := [], alts := [], laidByText := true, laidKinds := [.data, .data, .data, .data, .sentinel, .sentinel, .pinned], laidTests := true, laidLooks := .later }
def CypherLiteralsCardSaid : Prop := Claim7.holds Tryz.pinned (.plain (OpenSpec.ofChange cypherLiteralsSpec)) cypherLiteralsCard

/-- THE TIED CARD OF 'satchellaw25.CypherPrints'. -/
def cypherPrintsCard : Claim7 := { stood := { row := cypherPrintsRow, standIns := [], harness := (true, "67c8b976c79fb325ff386ae21669de5262b6ce761c5faf23824594dda4bc28cc"), looks := true }, kinds := [], alts := [], laidByText := true, laidKinds := [.data, .data, .data, .data, .sentinel, .sentinel, .pinned], laidTests := true, laidLooks := .later }
def CypherPrintsCardSaid : Prop := Claim7.holds Tryz.pinned (.plain (OpenSpec.ofChange cypherPrintsSpec)) cypherPrintsCard

/-- THE TIED CARD OF 'satchellaw25.CypherParses'. -/
def cypherParsesCard : Claim7 := { stood := { row := cypherParsesRow, standIns := [], harness := (true, "67c8b976c79fb325ff386ae21669de5262b6ce761c5faf23824594dda4bc28cc"), looks := true }, kinds := [], alts := [], laidByText := true, laidKinds := [.data, .data, .data, .data, .sentinel, .sentinel, .pinned], laidTests := true, laidLooks := .later }
def CypherParsesCardSaid : Prop := Claim7.holds Tryz.pinned (.plain (OpenSpec.ofChange cypherParsesSpec)) cypherParsesCard

/-- THE TIED CARD OF 'satchellaw25.CypherThere'. -/
def cypherThereCard : Claim7 := { stood := { row := cypherThereRow, standIns := [], harness := (true, "67c8b976c79fb325ff386ae21669de5262b6ce761c5faf23824594dda4bc28cc"), looks := true }, kinds := [], alts := [], laidByText := true, laidKinds := [.data, .data, .data, .data, .sentinel, .sentinel, .pinned], laidTests := true, laidLooks := .later }
def CypherThereCardSaid : Prop := Claim7.holds Tryz.pinned (.plain (OpenSpec.ofChange cypherThereSpec)) cypherThereCard

/-- THE TIED CARD OF 'satchellaw25.CypherBack'. -/
def cypherBackCard : Claim7 := { stood := { row := cypherBackRow, standIns := [], harness := (true, "67c8b976c79fb325ff386ae21669de5262b6ce761c5faf23824594dda4bc28cc"), looks := true }, kinds := [], alts := [], laidByText := true, laidKinds := [.data, .data, .data, .data, .sentinel, .sentinel, .pinned], laidTests := true, laidLooks := .later }
def CypherBackCardSaid : Prop := Claim7.holds Tryz.pinned (.plain (OpenSpec.ofChange cypherBackSpec)) cypherBackCard

/-- THE TIED CARD OF 'satchellaw25.CypherAnyOrder'. -/
def cypherAnyOrderCard : Claim7 := { stood := { row := cypherAnyOrderRow, standIns := [], harness := (true, "67c8b976c79fb325ff386ae21669de5262b6ce761c5faf23824594dda4bc28cc"), looks := true }, kinds := [], alts := [], laidByText := true, laidKinds := [.data, .data, .data, .data, .sentinel, .sentinel, .pinned], laidTests := true, laidLooks := .later }
def CypherAnyOrderCardSaid : Prop := Claim7.holds Tryz.pinned (.plain (OpenSpec.ofChange cypherAnyOrderSpec)) cypherAnyOrderCard

/-- THE TIED CARD OF 'satchellaw25.CypherTwice'. -/
def cypherTwiceCard : Claim7 := { stood := { row := cypherTwiceRow, standIns := [], harness := (true, "67c8b976c79fb325ff386ae21669de5262b6ce761c5faf23824594dda4bc28cc"), looks := true }, kinds := [], alts := [], laidByText := true, laidKinds := [.data, .data, .data, .data, .sentinel, .sentinel, .pinned], laidTests := true, laidLooks := .later }
def CypherTwiceCardSaid : Prop := Claim7.holds Tryz.pinned (.plain (OpenSpec.ofChange cypherTwiceSpec)) cypherTwiceCard

/-- THE TIED CARD OF 'satchellaw25.CypherOwn'. -/
def cypherOwnCard : Claim7 := { stood := { row := cypherOwnRow, standIns := [], harness := (true, "67c8b976c79fb325ff386ae21669de5262b6ce761c5faf23824594dda4bc28cc"), looks := true }, kinds := [], alts := [], laidByText := true, laidKinds := [.data, .data, .data, .data, .sentinel, .sentinel, .pinned], laidTests := true, laidLooks := .later }
def CypherOwnCardSaid : Prop := Claim7.holds Tryz.pinned (.plain (OpenSpec.ofChange cypherOwnSpec)) cypherOwnCard

/-- THE SECOND FORM's CARD OF 'satchellaw22.CellGrows'. -/
def cellGrowsUptoCard : Claim7 := { stood := { row := cellGrowsUptoRow, standIns := [], harness := (true, "67c8b976c79fb325ff386ae21669de5262b6ce761c5faf23824594dda4bc28cc"), looks := true }, kinds := [], alts := [], laidByText := true, laidKinds := [.data, .data, .data, .data, .sentinel, .sentinel, .pinned], laidTests := true, laidLooks := .later }
def CellGrowsUptoCardSaid : Prop := Claim7.holds Tryz.pinned (.plain (OpenSpec.upto cellGrowsSpec)) cellGrowsUptoCard

/-- THE SECOND FORM's CARD OF 'satchellaw25.CypherLiterals'. -/
def cypherLiteralsUptoCard : Claim7 := { stood := { row := cypherLiteralsUptoRow, standIns := [], harness := (true, "67c8b976c79fb325ff386ae21669de5262b6ce761c5faf23824594dda4bc28cc"), looks := true }, kinds := [], alts := [], laidByText := true, laidKinds := [.data, .data, .data, .data, .sentinel, .sentinel, .pinned], laidTests := true, laidLooks := .later }
def CypherLiteralsUptoCardSaid : Prop := Claim7.holds Tryz.pinned (.plain (OpenSpec.upto cypherLiteralsSpec)) cypherLiteralsUptoCard

/-- THE SECOND FORM's CARD OF 'satchellaw25.CypherPrints'. -/
def cypherPrintsUptoCard : Claim7 := { stood := { row := cypherPrintsUptoRow, standIns := [], harness := (true, "67c8b976c79fb325ff386ae21669de5262b6ce761c5faf23824594dda4bc28cc"), looks := true }, kinds := [], alts := [], laidByText := true, laidKinds := [.data, .data, .data, .data, .sentinel, .sentinel, .pinned], laidTests := true, laidLooks := .later }
def CypherPrintsUptoCardSaid : Prop := Claim7.holds Tryz.pinned (.plain (OpenSpec.upto cypherPrintsSpec)) cypherPrintsUptoCard

/-- THE SECOND FORM's CARD OF 'satchellaw25.CypherParses'. -/
def cypherParsesUptoCard : Claim7 := { stood := { row := cypherParsesUptoRow, standIns := [], harness := (true, "67c8b976c79fb325ff386ae21669de5262b6ce761c5faf23824594dda4bc28cc"), looks := true }, kinds := [], alts := [], laidByText := true, laidKinds := [.data, .data, .data, .data, .sentinel, .sentinel, .pinned], laidTests := true, laidLooks := .later }
def CypherParsesUptoCardSaid : Prop := Claim7.holds Tryz.pinned (.plain (OpenSpec.upto cypherParsesSpec)) cypherParsesUptoCard

/-- THE SECOND FORM's CARD OF 'satchellaw25.CypherThere'. -/
def cypherThereUptoCard : Claim7 := { stood := { row := cypherThereUptoRow, standIns := [], harness := (true, "67c8b976c79fb325ff386ae21669de5262b6ce761c5faf23824594dda4bc28cc"), looks := true }, kinds := [], alts := [], laidByText := true, laidKinds := [.data, .data, .data, .data, .sentinel, .sentinel, .pinned], laidTests := true, laidLooks := .later }
def CypherThereUptoCardSaid : Prop := Claim7.holds Tryz.pinned (.plain (OpenSpec.upto cypherThereSpec)) cypherThereUptoCard

/-- THE SECOND FORM's CARD OF 'satchellaw25.CypherBack'. -/
def cypherBackUptoCard : Claim7 := { stood := { row := cypherBackUptoRow, standIns := [], harness := (true, "67c8b976c79fb325ff386ae21669de5262b6ce761c5faf23824594dda4bc28cc"), looks := true }, kinds := [], alts := [], laidByText := true, laidKinds := [.data, .data, .data, .data, .sentinel, .sentinel, .pinned], laidTests := true, laidLooks := .later }
def CypherBackUptoCardSaid : Prop := Claim7.holds Tryz.pinned (.plain (OpenSpec.upto cypherBackSpec)) cypherBackUptoCard

/-- THE SECOND FORM's CARD OF 'satchellaw25.CypherAnyOrder'. -/
def cypherAnyOrderUptoCard : Claim7 := { stood := { row := cypherAnyOrderUptoRow, standIns := [], harness := (true, "67c8b976c79fb325ff386ae21669de5262b6ce761c5faf23824594dda4bc28cc"), looks := true }, kinds := [], alts := [], laidByText := true, laidKinds := [.data, .data, .data, .data, .sentinel, .sentinel, .pinned], laidTests := true, laidLooks := .later }
def CypherAnyOrderUptoCardSaid : Prop := Claim7.holds Tryz.pinned (.plain (OpenSpec.upto cypherAnyOrderSpec)) cypherAnyOrderUptoCard

/-- THE SECOND FORM's CARD OF 'satchellaw25.CypherTwice'. -/
def cypherTwiceUptoCard : Claim7 := { stood := { row := cypherTwiceUptoRow, standIns := [], harness := (true, "67c8b976c79fb325ff386ae21669de5262b6ce761c5faf23824594dda4bc28cc"), looks := true }, kinds := [], alts := [], laidByText := true, laidKinds := [.data, .data, .data, .data, .sentinel, .sentinel, .pinned], laidTests := true, laidLooks := .later }
def CypherTwiceUptoCardSaid : Prop := Claim7.holds Tryz.pinned (.plain (OpenSpec.upto cypherTwiceSpec)) cypherTwiceUptoCard

/-- THE SECOND FORM's CARD OF 'satchellaw25.CypherOwn'. -/
def cypherOwnUptoCard : Claim7 := { stood := { row := cypherOwnUptoRow, standIns := [], harness := (true, "67c8b976c79fb325ff386ae21669de5262b6ce761c5faf23824594dda4bc28cc"), looks := true }, kinds := [], alts := [], laidByText := true, laidKinds := [.data, .data, .data, .data, .sentinel, .sentinel, .pinned], laidTests := true, laidLooks := .later }
def CypherOwnUptoCardSaid : Prop := Claim7.holds Tryz.pinned (.plain (OpenSpec.upto cypherOwnSpec)) cypherOwnUptoCard
end Rows
end Go.Proofs.YtoofbflplhbpbaaGreatDoor
