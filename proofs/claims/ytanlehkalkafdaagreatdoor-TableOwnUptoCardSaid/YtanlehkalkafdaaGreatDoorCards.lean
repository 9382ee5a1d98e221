/-
  DERIVED. GIVEN WITH THE SEED: THE CARDS: each row of YtanlehkalkafdaaGreatDoorRows.lean that lists a variable, with what it lists TIED to the program's text (the seventh form; the later family's looks); each row that meets fmt, with fmt's text TOLD by the authors' own Lean function (tested against real Go, not proved from fmt's source: count such statements apart). THE CARD IS WHAT COUNTS. Prove the row's statement (the work); the ties are given (YtanlehkalkafdaaGreatDoorTie.lean); close each card by the builder's one call (the guide's Derived/Test/ToyasCard.lean, 'card_holds'). Laid BY PROGRAM, IN A SANDBOX (cutbox-door.mjs). By AI agents, Wed Nov 11 2026. No macro, syntax, notation, axiom, sorry.
-/
import Derived.Test.YtanlehkalkafdaaGreatDoorRows
import GoSem.ClaimSeven
namespace Go.Proofs.YtanlehkalkafdaaGreatDoor
namespace Rows

/-- THE TIED CARD OF 'satchellaw23.TablePrints'. -/
def tablePrintsCard : Claim7 := { stood := { row := tablePrintsRow, standIns := [], harness := (true, "d78968a0fb8c057c3773e6705d26a947f73f4dac82f1543fb45127e507982947"), looks := true }, kinds := [], alts := [], laidByText := true, laidKinds := [.data, .data, .data, .data, .sentinel, .sentinel, .pinned], laidTests := true, laidLooks := .later }
def TablePrintsCardSaid : Prop := Claim7.holds Tryz.pinned (.plain (OpenSpec.ofChange tablePrintsSpec)) tablePrintsCard

/-- THE TIED CARD OF 'satchellaw23.TableParses'. -/
def tableParsesCard : Claim7 := { stood := { row := tableParsesRow, standIns := [], harness := (true, "d78968a0fb8c057c3773e6705d26a947f73f4dac82f1543fb45127e507982947"), looks := true }, kinds := [], alts := [], laidByText := true, laidKinds := [.data, .data, .data, .data, .sentinel, .sentinel, .pinned], laidTests := true, laidLooks := .later }
def TableParsesCardSaid : Prop := Claim7.holds Tryz.pinned (.plain (OpenSpec.ofChange tableParsesSpec)) tableParsesCard

/-- THE TIED CARD OF 'satchellaw23.TableThere'. -/
def tableThereCard : Claim7 := { stood := { row := tableThereRow, standIns := [], harness := (true, "d78968a0fb8c057c3773e6705d26a947f73f4dac82f1543fb45127e507982947"), looks := true }, kinds := [], alts := [], laidByText := true, laidKinds := [.data, .data, .data, .data, .sentinel, .sentinel, .pinned], laidTests := true, laidLooks := .later }
def TableThereCardSaid : Prop := Claim7.holds Tryz.pinned (.plain (OpenSpec.ofChange tableThereSpec)) tableThereCard

/-- THE TIED CARD OF 'satchellaw23.TableBack'. -/
def tableBackCard : Claim7 := { stood := { row := tableBackRow, standIns := [], harness := (true, "d78968a0fb8c057c3773e6705d26a947f73f4dac82f1543fb45127e507982947"), looks := true }, kinds := [], alts := [], laidByText := true, laidKinds := [.data, .data, .data, .data, .sentinel, .sentinel, .pinned], laidTests := true, laidLooks := .later }
def TableBackCardSaid : Prop := Claim7.holds Tryz.pinned (.plain (OpenSpec.ofChange tableBackSpec)) tableBackCard

/-- THE TIED CARD OF 'satchellaw23.TableAnyOrder'. -/
def tableAnyOrderCard : Claim7 := { stood := { row := tableAnyOrderRow, standIns := [], harness := (true, "d78968a0fb8c057c3773e6705d26a947f73f4dac82f1543fb45127e507982947"), looks := true }, kinds := [], alts := [], laidByText := true, laidKinds := [.data, .data, .data, .data, .sentinel, .sentinel, .pinned], laidTests := true, laidLooks := .later }
def TableAnyOrderCardSaid : Prop := Claim7.holds Tryz.pinned (.plain (OpenSpec.ofChange tableAnyOrderSpec)) tableAnyOrderCard

/-- THE TIED CARD OF 'satchellaw23.TableOwn'. -/
def tableOwnCard : Claim7 := { stood := { row := tableOwnRow, standIns := [], harness := (true, "d78968a0fb8c057c3773e6705d26a947f73f4dac82f1543fb45127e507982947"), looks := true }, kinds := [], alts := [], laidByText := true, laidKinds := [.data, .data, .data, .data, .sentinel, .sentinel, .pinned], laidTests := true, laidLooks := .later }
def TableOwnCardSaid : Prop := Claim7.holds Tryz.pinned (.plain (OpenSpec.ofChange tableOwnSpec)) tableOwnCard

/-- THE SECOND FORM's CARD OF 'satchellaw23.TablePrints'. -/
def tablePrintsUptoCard : Claim7 := { stood := { row := tablePrintsUptoRow, standIns := [], harness := (true, "d78968a0fb8c057c3773e6705d26a947f73f4dac82f1543fb45127e507982947"), looks := true }, kinds := [], alts := [], laidByText := true, laidKinds := [.data, .data, .data, .data, .sentinel, .sentinel, .pinned], laidTests := true, laidLooks := .later }
def TablePrintsUptoCardSaid : Prop := Claim7.holds Tryz.pinned (.plain (OpenSpec.upto tablePrintsSpec)) tablePrintsUptoCard

/-- THE SECOND FORM's CARD OF 'satchellaw23.TableParses'. -/
def tableParsesUptoCard : Claim7 := { stood := { row := tableParsesUptoRow, standIns := [], harness := (true, "d78968a0fb8c057c3773e6705d26a947f73f4dac82f1543fb45127e507982947"), looks := true }, kinds := [], alts := [], laidByText := true, laidKinds := [.data, .data, .data, .data, .sentinel, .sentinel, .pinned], laidTests := true, laidLooks := .later }
def TableParsesUptoCardSaid : Prop := Claim7.holds Tryz.pinned (.plain (OpenSpec.upto tableParsesSpec)) tableParsesUptoCard

/-- THE SECOND FORM's CARD OF 'satchellaw23.TableThere'. -/
def tableThereUptoCard : Claim7 := { stood := { row := tableThereUptoRow, standIns := [], harness := (true, "d78968a0fb8c057c3773e6705d26a947f73f4dac82f1543fb45127e507982947"), looks := true }, kinds := [], alts := [], laidByText := true, laidKinds := [.data, .data, .data, .data, .sentinel, .sentinel, .pinned], laidTests := true, laidLooks := .later }
def TableThereUptoCardSaid : Prop := Claim7.holds Tryz.pinned (.plain (OpenSpec.upto tableThereSpec)) tableThereUptoCard

/-- THE SECOND FORM's CARD OF 'satchellaw23.TableBack'. -/
def tableBackUptoCard : Claim7 := { stood := { row := tableBackUptoRow, standIns := [], harness := (true, "d78968a0fb8c057c3773e6705d26a947f73f4dac82f1543fb45127e507982947"), looks := true }, kinds := [], alts := [], laidByText := true, laidKinds := [.data, .data, .data, .data, .sentinel, .sentinel, .pinned], laidTests := true, laidLooks := .later }
def TableBackUptoCardSaid : Prop := Claim7.holds Tryz.pinned (.plain (OpenSpec.upto tableBackSpec)) tableBackUptoCard

/-- THE SECOND FORM's CARD OF 'satchellaw23.TableAnyOrder'. -/
def tableAnyOrderUptoCard : Claim7 := { stood := { row := tableAnyOrderUptoRow, standIns := [], harness := (true, "d78968a0fb8c057c3773e6705d26a947f73f4dac82f1543fb45127e507982947"), looks := true }, kinds := [], alts := [], laidByText := true, laidKinds := [.data, .data, .data, .data, .sentinel, .sentinel, .pinned], laidTests := true, laidLooks := .later }
def TableAnyOrderUptoCardSaid : Prop := Claim7.holds Tryz.pinned (.plain (OpenSpec.upto tableAnyOrderSpec)) tableAnyOrderUptoCard

/-- THE SECOND FORM's CARD OF 'satchellaw23.TableOwn'. -/
def tableOwnUptoCard : Claim7 := { stood := { row := tableOwnUptoRow, standIns := [], harness := (true, "d78968a0fb8c057c3773e6705d26a947f73f4dac82f1543fb45127e507982947"), looks := true }, kinds := [], alts := [], laidByText := true, laidKinds := [.data, .data, .data, .data, .sentinel, .sentinel, .pinned], laidTests := true, laidLooks := .later }
def TableOwnUptoCardSaid : Prop := Claim7.holds Tryz.pinned (.plain (OpenSpec.upto tableOwnSpec)) tableOwnUptoCard
end Rows
end Go.Proofs.YtanlehkalkafdaaGreatDoor
