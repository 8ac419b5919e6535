/-
  DERIVED. GIVEN WITH THE SEED: THE CARDS: each row of YtmolobogpjddjaaGreatDoorRows.lean that lists a variable, with what it lists TIED to the program's text (the seventh form; the later family's looks); each row that meets fmt, with fmt's text TOLD by the authors' own Lean function (tested against real Go, not proved from fmt's source: count such statements apart). THE CARD IS WHAT COUNTS. Prove the row's statement (the work); the ties are given (YtmolobogpjddjaaGreatDoorTie.lean); close each card by the builder's one call (the guide's Derived/Test/ToyasCard.lean, 'card_holds'). Laid BY PROGRAM, IN A SANDBOX (cutbox-door.mjs). By AI agents, Wed Nov 11 2026. No macro, syntax, notation, axiom, sorry.
-/
import Derived.Test.YtmolobogpjddjaaGreatDoorRows
import GoSem.ClaimSeven
namespace Go.Proofs.YtmolobogpjddjaaGreatDoor
namespace Rows

/-- THE TIED CARD OF 'dofferlaw15.NfaBuild'. -/
def nfaBuildCard : Claim7 := { stood := { row := nfaBuildRow, standIns := [], harness := (true, "42ec34aef47793c9c3062f7100273e5729ac72dc87f3e5ae37ebfb859551050e"), looks := true }, kinds := [], alts := [], laidByText := true, laidKinds := [.data, .sentinel, .sentinel, .sentinel, .sentinel, .sentinel, .sentinel, .sentinel, .sentinel, .sentinel, .sentinel, .sentinel, .sentinel, .sentinel, .sentinel, .sentinel, .sentinel, .sentinel, .sentinel, .pinned], laidTests := true, laidLooks := .later }
def NfaBuildCardSaid : Prop := Claim7.holds Tryz.pinned (.plain (OpenSpec.ofChange nfaBuildSpec)) nfaBuildCard

/-- THE TIED CARD OF 'dofferlaw15.NfaFiles'. -/
def nfaFilesCard : Claim7 := { stood := { row := nfaFilesRow, standIns := [], harness := (true, "42ec34aef47793c9c3062f7100273e5729ac72dc87f3e5ae37ebfb859551050e"), looks := true }, kinds := [], alts := [], laidByText := true, laidKinds := [.data, .sentinel, .sentinel, .sentinel, .sentinel, .sentinel, .sentinel, .sentinel, .sentinel, .sentinel, .sentinel, .sentinel, .sentinel, .sentinel, .sentinel, .sentinel, .sentinel, .sentinel, .sentinel, .pinned], laidTests := true, laidLooks := .later }
def NfaFilesCardSaid : Prop := Claim7.holds Tryz.pinned (.plain (OpenSpec.ofChange nfaFilesSpec)) nfaFilesCard

/-- THE SECOND FORM's CARD OF 'dofferlaw15.NfaBuild'. -/
def nfaBuildUptoCard : Claim7 := { stood := { row := nfaBuildUptoRow, standIns := [], harness := (true, "42ec34aef47793c9c3062f7100273e5729ac72dc87f3e5ae37ebfb859551050e"), looks := true }, kinds := [], alts := [], laidByText := true, laidKinds := [.data, .sentinel, .sentinel, .sentinel, .sentinel, .sentinel, .sentinel, .sentinel, .sentinel, .sentinel, .sentinel, .sentinel, .sentinel, .sentinel, .sentinel, .sentinel, .sentinel, .sentinel, .sentinel, .pinned], laidTests := true, laidLooks := .later }
def NfaBuildUptoCardSaid : Prop := Claim7.holds Tryz.pinned (.plain (OpenSpec.upto nfaBuildSpec)) nfaBuildUptoCard

/-- THE SECOND FORM's CARD OF 'dofferlaw15.NfaFiles'. -/
def nfaFilesUptoCard : Claim7 := { stood := { row := nfaFilesUptoRow, standIns := [], harness := (true, "42ec34aef47793c9c3062f7100273e5729ac72dc87f3e5ae37ebfb859551050e"), looks := true }, kinds := [], alts := [], laidByText := true, laidKinds := [.data, .sentinel, .sentinel, .sentinel, .sentinel, .sentinel, .sentinel, .sentinel, .sentinel, .sentinel, .sentinel, .sentinel, .sentinel, .sentinel, .sentinel, .sentinel, .sentinel, .sentinel, .sentinel, .pinned], laidTests := true, laidLooks := .later }
def NfaFilesUptoCardSaid : Prop := Claim7.holds Tryz.pinned (.plain (OpenSpec.upto nfaFilesSpec)) nfaFilesUptoCard
end Rows
end Go.Proofs.YtmolobogpjddjaaGreatDoor
