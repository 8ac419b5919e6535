/-
  DERIVED. GIVEN WITH THE SEED: THE CARDS: each row of YtnkednnnkifenaaGreatDoorRows.lean that lists a variable, with what it lists TIED to the program's text (the seventh form; the later family's looks); each row that meets fmt, with fmt's text TOLD by the authors' own Lean function (tested against real Go, not proved from fmt's source: count such statements apart). THE CARD IS WHAT COUNTS. Prove the row's statement (the work); the ties are given (YtnkednnnkifenaaGreatDoorTie.lean); close each card by the builder's one call (the guide's Derived/Test/ToyasCard.lean, 'card_holds'). Laid BY PROGRAM, IN A SANDBOX (cutbox-door.mjs). By AI agents, Wed Nov 11 2026. No macro, syntax, notation, axiom, sorry.
-/
import Derived.Test.YtnkednnnkifenaaGreatDoorRows
import GoSem.ClaimSeven
namespace Go.Proofs.YtnkednnnkifenaaGreatDoor
namespace Rows

/-- THE TIED CARD OF 'dofferlaw15.NfaFiles'. -/
def nfaFilesCard : Claim7 := { stood := { row := nfaFilesRow, standIns := [], harness := (true, "9b8fc900f1d2f3e72511d52fe8b68ea68491a67c32fc113cb81e0fb2260cc580"), looks := true }, kinds := [], alts := [], laidByText := true, laidKinds := [.data, .sentinel, .sentinel, .sentinel, .sentinel, .sentinel, .sentinel, .sentinel, .sentinel, .sentinel, .sentinel, .sentinel, .sentinel, .sentinel, .sentinel, .sentinel, .sentinel, .sentinel, .sentinel, .pinned], laidTests := true, laidLooks := .later }
def NfaFilesCardSaid : Prop := Claim7.holds Tryz.pinned (.plain (OpenSpec.ofChange nfaFilesSpec)) nfaFilesCard

/-- THE TIED CARD OF 'dofferlaw14.RulesRead'. -/
def rulesReadCard : Claim7 := { stood := { row := rulesReadRow, standIns := [], harness := (true, "9b8fc900f1d2f3e72511d52fe8b68ea68491a67c32fc113cb81e0fb2260cc580"), looks := true }, kinds := [], alts := [], laidByText := true, laidKinds := [.data, .data, .sentinel, .sentinel, .sentinel, .sentinel, .sentinel, .sentinel, .sentinel, .sentinel, .sentinel, .sentinel, .sentinel, .sentinel, .sentinel, .sentinel, .sentinel, .sentinel, .sentinel, .sentinel, .pinned], laidTests := true, laidLooks := .later }
def RulesReadCardSaid : Prop := Claim7.holds Tryz.pinned (.plain (OpenSpec.ofChange rulesReadSpec)) rulesReadCard

/-- THE TIED CARD OF 'dofferlaw27.MunchWhole'. -/
def munchWholeCard : Claim7 := { stood := { row := munchWholeRow, standIns := [], harness := (true, "9b8fc900f1d2f3e72511d52fe8b68ea68491a67c32fc113cb81e0fb2260cc580"), looks := true }, kinds := [], alts := [], laidByText := true, laidKinds := [.data, .data, .sentinel, .sentinel, .sentinel, .sentinel, .sentinel, .sentinel, .sentinel, .sentinel, .sentinel, .sentinel, .sentinel, .pinned], laidTests := true, laidLooks := .later }
def MunchWholeCardSaid : Prop := Claim7.holds Tryz.pinned (.plain (OpenSpec.ofChange munchWholeSpec)) munchWholeCard

/-- THE TIED CARD OF 'dofferlaw27.MunchJoin'. -/
def munchJoinCard : Claim7 := { stood := { row := munchJoinRow, standIns := [], harness := (true, "9b8fc900f1d2f3e72511d52fe8b68ea68491a67c32fc113cb81e0fb2260cc580"), looks := true }, kinds := [], alts := [], laidByText := true, laidKinds := [.data, .data, .sentinel, .sentinel, .sentinel, .sentinel, .sentinel, .sentinel, .sentinel, .sentinel, .sentinel, .sentinel, .sentinel, .pinned], laidTests := true, laidLooks := .later }
def MunchJoinCardSaid : Prop := Claim7.holds Tryz.pinned (.plain (OpenSpec.ofChange munchJoinSpec)) munchJoinCard

/-- THE SECOND FORM's CARD OF 'dofferlaw15.NfaFiles'. -/
def nfaFilesUptoCard : Claim7 := { stood := { row := nfaFilesUptoRow, standIns := [], harness := (true, "9b8fc900f1d2f3e72511d52fe8b68ea68491a67c32fc113cb81e0fb2260cc580"), looks := true }, kinds := [], alts := [], laidByText := true, laidKinds := [.data, .sentinel, .sentinel, .sentinel, .sentinel, .sentinel, .sentinel, .sentinel, .sentinel, .sentinel, .sentinel, .sentinel, .sentinel, .sentinel, .sentinel, .sentinel, .sentinel, .sentinel, .sentinel, .pinned], laidTests := true, laidLooks := .later }
def NfaFilesUptoCardSaid : Prop := Claim7.holds Tryz.pinned (.plain (OpenSpec.upto nfaFilesSpec)) nfaFilesUptoCard

/-- THE SECOND FORM's CARD OF 'dofferlaw14.RulesRead'. -/
def rulesReadUptoCard : Claim7 := { stood := { row := rulesReadUptoRow, standIns := [], harness := (true, "9b8fc900f1d2f3e72511d52fe8b68ea68491a67c32fc113cb81e0fb2260cc580"), looks := true }, kinds := [], alts := [], laidByText := true, laidKinds := [.data, .data, .sentinel, .sentinel, .sentinel, .sentinel, .sentinel, .sentinel, .sentinel, .sentinel, .sentinel, .sentinel, .sentinel, .sentinel, .sentinel, .sentinel, .sentinel, .sentinel, .sentinel, .sentinel, .pinned], laidTests := true, laidLooks := .later }
def RulesReadUptoCardSaid : Prop := Claim7.holds Tryz.pinned (.plain (OpenSpec.upto rulesReadSpec)) rulesReadUptoCard

/-- THE SECOND FORM's CARD OF 'dofferlaw27.MunchWhole'. -/
def munchWholeUptoCard : Claim7 := { stood := { row := munchWholeUptoRow, standIns := [], harness := (true, "9b8fc900f1d2f3e72511d52fe8b68ea68491a67c32fc113cb81e0fb2260cc580"), looks := true }, kinds := [], alts := [], laidByText := true, laidKinds := [.data, .data, .sentinel, .sentinel, .sentinel, .sentinel, .sentinel, .sentinel, .sentinel, .sentinel, .sentinel, .sentinel, .sentinel, .pinned], laidTests := true, laidLooks := .later }
def MunchWholeUptoCardSaid : Prop := Claim7.holds Tryz.pinned (.plain (OpenSpec.upto munchWholeSpec)) munchWholeUptoCard

/-- THE SECOND FORM's CARD OF 'dofferlaw27.MunchJoin'. -/
def munchJoinUptoCard : Claim7 := { stood := { row := munchJoinUptoRow, standIns := [], harness := (true, "9b8fc900f1d2f3e72511d52fe8b68ea68491a67c32fc113cb81e0fb2260cc580"), looks := true }, kinds := [], alts := [], laidByText := true, laidKinds := [.data, .data, .sentinel, .sentinel, .sentinel, .sentinel, .sentinel, .sentinel, .sentinel, .sentinel, .sentinel, .sentinel, .sentinel, .pinned], laidTests := true, laidLooks := .later }
def MunchJoinUptoCardSaid : Prop := Claim7.holds Tryz.pinned (.plain (OpenSpec.upto munchJoinSpec)) munchJoinUptoCard
end Rows
end Go.Proofs.YtnkednnnkifenaaGreatDoor
