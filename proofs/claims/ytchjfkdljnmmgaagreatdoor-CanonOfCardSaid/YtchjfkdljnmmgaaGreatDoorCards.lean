/-
  DERIVED. GIVEN WITH THE SEED: THE CARDS: each row of YtchjfkdljnmmgaaGreatDoorRows.lean that lists a variable, with what it lists TIED to the program's text (the seventh form; the later family's looks); each row that meets fmt, with fmt's text TOLD by the authors' own Lean function (tested against real Go, not proved from fmt's source: count such statements apart). THE CARD IS WHAT COUNTS. Prove the row's statement (the work); the ties are given (YtchjfkdljnmmgaaGreatDoorTie.lean); close each card by the builder's one call (the guide's Derived/Test/ToyasCard.lean, 'card_holds'). Laid BY PROGRAM, IN A SANDBOX (cutbox-door.mjs). By AI agents, Wed Nov 11 2026. No macro, syntax, notation, axiom, sorry.
-/
import Derived.Test.YtchjfkdljnmmgaaGreatDoorRows
import GoSem.ClaimSeven
namespace Go.Proofs.YtchjfkdljnmmgaaGreatDoor
namespace Rows

/-- THE TIED CARD OF 'dofferlaw20.CanonOf'. -/
def canonOfCard : Claim7 := { stood := { row := canonOfRow, standIns := [], harness := (true, "f03dc6ed5f925546eac6dafa75e6ff3b3cb083bbf43e2c507b6275079b0e1a29"), looks := true }, kinds := [], alts := [], laidByText := true, laidKinds := [.data, .sentinel, .sentinel, .sentinel, .sentinel, .sentinel, .sentinel, .sentinel, .sentinel, .sentinel, .sentinel, .sentinel, .sentinel, .sentinel, .sentinel, .sentinel, .sentinel, .sentinel, .sentinel], laidTests := true, laidLooks := .later }
def CanonOfCardSaid : Prop := Claim7.holds Tryz.pinned (.plain (OpenSpec.ofChange canonOfSpec)) canonOfCard

/-- THE TIED CARD OF 'dofferlaw15.NfaRight'. -/
def nfaRightCard : Claim7 := { stood := { row := nfaRightRow, standIns := [], harness := (true, "f03dc6ed5f925546eac6dafa75e6ff3b3cb083bbf43e2c507b6275079b0e1a29"), looks := true }, kinds := [], alts := [], laidByText := true, laidKinds := [.data, .sentinel, .sentinel, .sentinel, .sentinel, .sentinel, .sentinel, .sentinel, .sentinel, .sentinel, .sentinel, .sentinel, .pinned], laidTests := true, laidLooks := .later }
def NfaRightCardSaid : Prop := Claim7.holds Tryz.pinned (.plain (OpenSpec.ofChange nfaRightSpec)) nfaRightCard

/-- THE TIED CARD OF 'dofferlaw21.ProductAlike'. -/
def productAlikeCard : Claim7 := { stood := { row := productAlikeRow, standIns := [], harness := (true, "f03dc6ed5f925546eac6dafa75e6ff3b3cb083bbf43e2c507b6275079b0e1a29"), looks := true }, kinds := [], alts := [], laidByText := true, laidKinds := [.data, .data, .sentinel, .sentinel, .sentinel, .sentinel, .sentinel, .sentinel, .sentinel, .sentinel, .sentinel, .sentinel, .sentinel, .pinned], laidTests := true, laidLooks := .later }
def ProductAlikeCardSaid : Prop := Claim7.holds Tryz.pinned (.plain (OpenSpec.ofChange productAlikeSpec)) productAlikeCard

/-- THE SECOND FORM's CARD OF 'dofferlaw20.CanonOf'. -/
def canonOfUptoCard : Claim7 := { stood := { row := canonOfUptoRow, standIns := [], harness := (true, "f03dc6ed5f925546eac6dafa75e6ff3b3cb083bbf43e2c507b6275079b0e1a29"), looks := true }, kinds := [], alts := [], laidByText := true, laidKinds := [.data, .sentinel, .sentinel, .sentinel, .sentinel, .sentinel, .sentinel, .sentinel, .sentinel, .sentinel, .sentinel, .sentinel, .sentinel, .sentinel, .sentinel, .sentinel, .sentinel, .sentinel, .sentinel], laidTests := true, laidLooks := .later }
def CanonOfUptoCardSaid : Prop := Claim7.holds Tryz.pinned (.plain (OpenSpec.upto canonOfSpec)) canonOfUptoCard

/-- THE SECOND FORM's CARD OF 'dofferlaw15.NfaRight'. -/
def nfaRightUptoCard : Claim7 := { stood := { row := nfaRightUptoRow, standIns := [], harness := (true, "f03dc6ed5f925546eac6dafa75e6ff3b3cb083bbf43e2c507b6275079b0e1a29"), looks := true }, kinds := [], alts := [], laidByText := true, laidKinds := [.data, .sentinel, .sentinel, .sentinel, .sentinel, .sentinel, .sentinel, .sentinel, .sentinel, .sentinel, .sentinel, .sentinel, .pinned], laidTests := true, laidLooks := .later }
def NfaRightUptoCardSaid : Prop := Claim7.holds Tryz.pinned (.plain (OpenSpec.upto nfaRightSpec)) nfaRightUptoCard

/-- THE SECOND FORM's CARD OF 'dofferlaw21.ProductAlike'. -/
def productAlikeUptoCard : Claim7 := { stood := { row := productAlikeUptoRow, standIns := [], harness := (true, "f03dc6ed5f925546eac6dafa75e6ff3b3cb083bbf43e2c507b6275079b0e1a29"), looks := true }, kinds := [], alts := [], laidByText := true, laidKinds := [.data, .data, .sentinel, .sentinel, .sentinel, .sentinel, .sentinel, .sentinel, .sentinel, .sentinel, .sentinel, .sentinel, .sentinel, .pinned], laidTests := true, laidLooks := .later }
def ProductAlikeUptoCardSaid : Prop := Claim7.holds Tryz.pinned (.plain (OpenSpec.upto productAlikeSpec)) productAlikeUptoCard
end Rows
end Go.Proofs.YtchjfkdljnmmgaaGreatDoor
