/-
  DERIVED. GIVEN WITH THE SEED: THE CARDS: each row of YtdijgcnlbfgkdaaGreatDoorRows.lean that lists a variable, with what it lists TIED to the program's text (the seventh form; the later family's looks); each row that meets fmt, with fmt's text TOLD by the authors' own Lean function (tested against real Go, not proved from fmt's source: count such statements apart). THE CARD IS WHAT COUNTS. Prove the row's statement (the work); the ties are given (YtdijgcnlbfgkdaaGreatDoorTie.lean); close each card by the builder's one call (the guide's Derived/Test/ToyasCard.lean, 'card_holds'). Laid BY PROGRAM, IN A SANDBOX (cutbox-door.mjs). By AI agents, Wed Nov 11 2026. No macro, syntax, notation, axiom, sorry.
-/
import Derived.Test.YtdijgcnlbfgkdaaGreatDoorRows
import GoSem.ClaimSeven
namespace Go.Proofs.YtdijgcnlbfgkdaaGreatDoor
namespace Rows

/-- THE TIED CARD OF 'satchellaw25.CypherParses'. -/
def cypherParsesCard : Claim7 := { stood := { row := cypherParsesRow, standIns := [], harness := (true, "23e81c3b2a67d820f3d8c965ad8510725e6a7cf23a5e9024b4705993be4f1f54"), looks := true }, kinds := [], alts := [], laidByText := true, laidKinds := [.data, .data, .data, .data, .sentinel, .sentinel, .pinned], laidTests := true, laidLooks := .later }
def CypherParsesCardSaid : Prop := Claim7.holds Tryz.pinned (.plain (OpenSpec.ofChange cypherParsesSpec)) cypherParsesCard

/-- THE SECOND FORM's CARD OF 'satchellaw25.CypherParses'. -/
def cypherParsesUptoCard : Claim7 := { stood := { row := cypherParsesUptoRow, standIns := [], harness := (true, "23e81c3b2a67d820f3d8c965ad8510725e6a7cf23a5e9024b4705993be4f1f54"), looks := true }, kinds := [], alts := [], laidByText := true, laidKinds := [.data, .data, .data, .data, .sentinel, .sentinel, .pinned], laidTests := true, laidLooks := .later }
def CypherParsesUptoCardSaid : Prop := Claim7.holds Tryz.pinned (.plain (OpenSpec.upto cypherParsesSpec)) cypherParsesUptoCard
end Rows
end Go.Proofs.YtdijgcnlbfgkdaaGreatDoor
