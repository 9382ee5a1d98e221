/-
  DERIVED. GIVEN WITH THE SEED: THE CARDS: each row of YtkdakckjafomhaaGreatDoorRows.lean that lists a variable, with what it lists TIED to the program's text (the seventh form; the later family's looks); each row that meets fmt, with fmt's text TOLD by the authors' own Lean function (tested against real Go, not proved from fmt's source: count such statements apart). THE CARD IS WHAT COUNTS. Prove the row's statement (the work); the ties are given (YtkdakckjafomhaaGreatDoorTie.lean); close each card by the builder's one call (the guide's Derived/Test/ToyasCard.lean, 'card_holds'). Laid BY PROGRAM, IN A SANDBOX (cutbox-door.mjs). By AI agents, Wed Nov 11 2026. No macro, syntax, notation, axiom, sorry.
-/
import Derived.Test.YtkdakckjafomhaaGreatDoorRows
import GoSem.ClaimSeven
namespace Go.Proofs.YtkdakckjafomhaaGreatDoor
namespace Rows

/-- THE TIED CARD OF 'satchellaw23.TableParses'. -/
def tableParsesCard : Claim7 := { stood := { row := tableParsesRow, standIns := [], harness := (true, "7cfbd2252d56ef1123bb3f98fd057273b292d5300a0e2f2f1a1e402cedc404be"), looks := true }, kinds := [], alts := [], laidByText := true, laidKinds := [.data, .data, .data, .data, .sentinel, .sentinel, .pinned], laidTests := true, laidLooks := .later }
def TableParsesCardSaid : Prop := Claim7.holds Tryz.pinned (.plain (OpenSpec.ofChange tableParsesSpec)) tableParsesCard

/-- THE SECOND FORM's CARD OF 'satchellaw23.TableParses'. -/
def tableParsesUptoCard : Claim7 := { stood := { row := tableParsesUptoRow, standIns := [], harness := (true, "7cfbd2252d56ef1123bb3f98fd057273b292d5300a0e2f2f1a1e402cedc404be"), looks := true }, kinds := [], alts := [], laidByText := true, laidKinds := [.data, .data, .data, .data, .sentinel, .sentinel, .pinned], laidTests := true, laidLooks := .later }
def TableParsesUptoCardSaid : Prop := Claim7.holds Tryz.pinned (.plain (OpenSpec.upto tableParsesSpec)) tableParsesUptoCard
end Rows
end Go.Proofs.YtkdakckjafomhaaGreatDoor
