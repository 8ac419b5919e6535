/-
  DERIVED. GIVEN WITH THE SEED: THE CARDS: each row of YteiaphkejkgfkaaDoorRows.lean that lists a variable, with what it lists TIED to the program's text (the seventh form; the later family's looks); each row that meets fmt, with fmt's text TOLD by the authors' own Lean function (tested against real Go, not proved from fmt's source: count such statements apart). THE CARD IS WHAT COUNTS. Prove the row's statement (the work); the ties are given (YteiaphkejkgfkaaDoorTie.lean); close each card by the builder's one call (the guide's Derived/Test/ToyasCard.lean, 'card_holds'). Laid BY PROGRAM, IN A SANDBOX (cutbox-door.mjs). By AI agents, Wed Nov 11 2026. No macro, syntax, notation, axiom, sorry.
-/
import Derived.Test.YteiaphkejkgfkaaDoorRows
import GoSem.ClaimSeven
namespace Go.Proofs.YteiaphkejkgfkaaDoor
namespace Rows

/-- THE TIED CARD OF 'dofferlaw20.CanonTells'. -/
def canonTellsCard : Claim7 := { stood := { row := canonTellsRow, standIns := [], harness := (true, "e9d7c2aa77e173caaebe776eaf31d6a10b6d81339a33d5aed3eea1f3316e8af7"), looks := false }, kinds := [], alts := [], laidByText := true, laidKinds := [.sentinel], laidTests := true, laidLooks := .later }
def CanonTellsCardSaid : Prop := Claim7.holds Tryd.pinned (.plain (OpenSpec.ofChange canonTellsSpec)) canonTellsCard

/-- THE TIED CARD OF 'dofferlaw20.CanonFinds'. -/
def canonFindsCard : Claim7 := { stood := { row := canonFindsRow, standIns := [], harness := (true, "e9d7c2aa77e173caaebe776eaf31d6a10b6d81339a33d5aed3eea1f3316e8af7"), looks := false }, kinds := [], alts := [], laidByText := true, laidKinds := [.sentinel], laidTests := true, laidLooks := .later }
def CanonFindsCardSaid : Prop := Claim7.holds Tryd.pinned (.plain (OpenSpec.ofChange canonFindsSpec)) canonFindsCard

/-- THE TIED CARD OF 'dofferlaw18.TrimTells'. -/
def trimTellsCard : Claim7 := { stood := { row := trimTellsRow, standIns := [], harness := (true, "e9d7c2aa77e173caaebe776eaf31d6a10b6d81339a33d5aed3eea1f3316e8af7"), looks := false }, kinds := [], alts := [], laidByText := true, laidKinds := [.data, .sentinel], laidTests := true, laidLooks := .later }
def TrimTellsCardSaid : Prop := Claim7.holds Tryd.pinned (.plain (OpenSpec.ofChange trimTellsSpec)) trimTellsCard

/-- THE TIED CARD OF 'dofferlaw18.TrimDead'. -/
def trimDeadCard : Claim7 := { stood := { row := trimDeadRow, standIns := [], harness := (true, "e9d7c2aa77e173caaebe776eaf31d6a10b6d81339a33d5aed3eea1f3316e8af7"), looks := false }, kinds := [], alts := [], laidByText := true, laidKinds := [.data, .sentinel], laidTests := true, laidLooks := .later }
def TrimDeadCardSaid : Prop := Claim7.holds Tryd.pinned (.plain (OpenSpec.ofChange trimDeadSpec)) trimDeadCard

/-- THE TIED CARD OF 'dofferlaw18.TrimShortest'. -/
def trimShortestCard : Claim7 := { stood := { row := trimShortestRow, standIns := [], harness := (true, "e9d7c2aa77e173caaebe776eaf31d6a10b6d81339a33d5aed3eea1f3316e8af7"), looks := false }, kinds := [], alts := [], laidByText := true, laidKinds := [.data, .sentinel], laidTests := true, laidLooks := .later }
def TrimShortestCardSaid : Prop := Claim7.holds Tryd.pinned (.plain (OpenSpec.ofChange trimShortestSpec)) trimShortestCard

/-- THE TIED CARD OF 'dofferlaw18.TrimFinds'. -/
def trimFindsCard : Claim7 := { stood := { row := trimFindsRow, standIns := [], harness := (true, "e9d7c2aa77e173caaebe776eaf31d6a10b6d81339a33d5aed3eea1f3316e8af7"), looks := false }, kinds := [], alts := [], laidByText := true, laidKinds := [.data, .sentinel], laidTests := true, laidLooks := .later }
def TrimFindsCardSaid : Prop := Claim7.holds Tryd.pinned (.plain (OpenSpec.ofChange trimFindsSpec)) trimFindsCard

/-- THE TIED CARD OF 'dofferlaw19.HopcroftParts'. -/
def hopcroftPartsCard : Claim7 := { stood := { row := hopcroftPartsRow, standIns := [], harness := (true, "e9d7c2aa77e173caaebe776eaf31d6a10b6d81339a33d5aed3eea1f3316e8af7"), looks := false }, kinds := [], alts := [], laidByText := true, laidKinds := [.data, .sentinel], laidTests := true, laidLooks := .later }
def HopcroftPartsCardSaid : Prop := Claim7.holds Tryd.pinned (.plain (OpenSpec.ofChange hopcroftPartsSpec)) hopcroftPartsCard

/-- THE TIED CARD OF 'dofferlaw19.HopcroftLeast'. -/
def hopcroftLeastCard : Claim7 := { stood := { row := hopcroftLeastRow, standIns := [], harness := (true, "e9d7c2aa77e173caaebe776eaf31d6a10b6d81339a33d5aed3eea1f3316e8af7"), looks := false }, kinds := [], alts := [], laidByText := true, laidKinds := [.data, .sentinel], laidTests := true, laidLooks := .later }
def HopcroftLeastCardSaid : Prop := Claim7.holds Tryd.pinned (.plain (OpenSpec.ofChange hopcroftLeastSpec)) hopcroftLeastCard

/-- THE TIED CARD OF 'dofferlaw19.HopcroftAgain'. -/
def hopcroftAgainCard : Claim7 := { stood := { row := hopcroftAgainRow, standIns := [], harness := (true, "e9d7c2aa77e173caaebe776eaf31d6a10b6d81339a33d5aed3eea1f3316e8af7"), looks := false }, kinds := [], alts := [], laidByText := true, laidKinds := [.data, .sentinel], laidTests := true, laidLooks := .later }
def HopcroftAgainCardSaid : Prop := Claim7.holds Tryd.pinned (.plain (OpenSpec.ofChange hopcroftAgainSpec)) hopcroftAgainCard

/-- THE TIED CARD OF 'dofferlaw20.CanonOne'. -/
def canonOneCard : Claim7 := { stood := { row := canonOneRow, standIns := [], harness := (true, "e9d7c2aa77e173caaebe776eaf31d6a10b6d81339a33d5aed3eea1f3316e8af7"), looks := false }, kinds := [], alts := [], laidByText := true, laidKinds := [.data, .sentinel], laidTests := true, laidLooks := .later }
def CanonOneCardSaid : Prop := Claim7.holds Tryd.pinned (.plain (OpenSpec.ofChange canonOneSpec)) canonOneCard

/-- THE TIED CARD OF 'dofferlaw19.HopcroftFewest'. -/
def hopcroftFewestCard : Claim7 := { stood := { row := hopcroftFewestRow, standIns := [], harness := (true, "e9d7c2aa77e173caaebe776eaf31d6a10b6d81339a33d5aed3eea1f3316e8af7"), looks := false }, kinds := [], alts := [], laidByText := true, laidKinds := [.data, .sentinel], laidTests := true, laidLooks := .later }
def HopcroftFewestCardSaid : Prop := Claim7.holds Tryd.pinned (.plain (OpenSpec.ofChange hopcroftFewestSpec)) hopcroftFewestCard

/-- THE SECOND FORM's CARD OF 'dofferlaw20.CanonTells'. -/
def canonTellsUptoCard : Claim7 := { stood := { row := canonTellsUptoRow, standIns := [], harness := (true, "e9d7c2aa77e173caaebe776eaf31d6a10b6d81339a33d5aed3eea1f3316e8af7"), looks := false }, kinds := [], alts := [], laidByText := true, laidKinds := [.sentinel], laidTests := true, laidLooks := .later }
def CanonTellsUptoCardSaid : Prop := Claim7.holds Tryd.pinned (.plain (OpenSpec.upto canonTellsSpec)) canonTellsUptoCard

/-- THE SECOND FORM's CARD OF 'dofferlaw20.CanonFinds'. -/
def canonFindsUptoCard : Claim7 := { stood := { row := canonFindsUptoRow, standIns := [], harness := (true, "e9d7c2aa77e173caaebe776eaf31d6a10b6d81339a33d5aed3eea1f3316e8af7"), looks := false }, kinds := [], alts := [], laidByText := true, laidKinds := [.sentinel], laidTests := true, laidLooks := .later }
def CanonFindsUptoCardSaid : Prop := Claim7.holds Tryd.pinned (.plain (OpenSpec.upto canonFindsSpec)) canonFindsUptoCard

/-- THE SECOND FORM's CARD OF 'dofferlaw18.TrimTells'. -/
def trimTellsUptoCard : Claim7 := { stood := { row := trimTellsUptoRow, standIns := [], harness := (true, "e9d7c2aa77e173caaebe776eaf31d6a10b6d81339a33d5aed3eea1f3316e8af7"), looks := false }, kinds := [], alts := [], laidByText := true, laidKinds := [.data, .sentinel], laidTests := true, laidLooks := .later }
def TrimTellsUptoCardSaid : Prop := Claim7.holds Tryd.pinned (.plain (OpenSpec.upto trimTellsSpec)) trimTellsUptoCard

/-- THE SECOND FORM's CARD OF 'dofferlaw18.TrimDead'. -/
def trimDeadUptoCard : Claim7 := { stood := { row := trimDeadUptoRow, standIns := [], harness := (true, "e9d7c2aa77e173caaebe776eaf31d6a10b6d81339a33d5aed3eea1f3316e8af7"), looks := false }, kinds := [], alts := [], laidByText := true, laidKinds := [.data, .sentinel], laidTests := true, laidLooks := .later }
def TrimDeadUptoCardSaid : Prop := Claim7.holds Tryd.pinned (.plain (OpenSpec.upto trimDeadSpec)) trimDeadUptoCard

/-- THE SECOND FORM's CARD OF 'dofferlaw18.TrimShortest'. -/
def trimShortestUptoCard : Claim7 := { stood := { row := trimShortestUptoRow, standIns := [], harness := (true, "e9d7c2aa77e173caaebe776eaf31d6a10b6d81339a33d5aed3eea1f3316e8af7"), looks := false }, kinds := [], alts := [], laidByText := true, laidKinds := [.data, .sentinel], laidTests := true, laidLooks := .later }
def TrimShortestUptoCardSaid : Prop := Claim7.holds Tryd.pinned (.plain (OpenSpec.upto trimShortestSpec)) trimShortestUptoCard

/-- THE SECOND FORM's CARD OF 'dofferlaw18.TrimFinds'. -/
def trimFindsUptoCard : Claim7 := { stood := { row := trimFindsUptoRow, standIns := [], harness := (true, "e9d7c2aa77e173caaebe776eaf31d6a10b6d81339a33d5aed3eea1f3316e8af7"), looks := false }, kinds := [], alts := [], laidByText := true, laidKinds := [.data, .sentinel], laidTests := true, laidLooks := .later }
def TrimFindsUptoCardSaid : Prop := Claim7.holds Tryd.pinned (.plain (OpenSpec.upto trimFindsSpec)) trimFindsUptoCard

/-- THE SECOND FORM's CARD OF 'dofferlaw19.HopcroftParts'. -/
def hopcroftPartsUptoCard : Claim7 := { stood := { row := hopcroftPartsUptoRow, standIns := [], harness := (true, "e9d7c2aa77e173caaebe776eaf31d6a10b6d81339a33d5aed3eea1f3316e8af7"), looks := false }, kinds := [], alts := [], laidByText := true, laidKinds := [.data, .sentinel], laidTests := true, laidLooks := .later }
def HopcroftPartsUptoCardSaid : Prop := Claim7.holds Tryd.pinned (.plain (OpenSpec.upto hopcroftPartsSpec)) hopcroftPartsUptoCard

/-- THE SECOND FORM's CARD OF 'dofferlaw19.HopcroftLeast'. -/
def hopcroftLeastUptoCard : Claim7 := { stood := { row := hopcroftLeastUptoRow, standIns := [], harness := (true, "e9d7c2aa77e173caaebe776eaf31d6a10b6d81339a33d5aed3eea1f3316e8af7"), looks := false }, kinds := [], alts := [], laidByText := true, laidKinds := [.data, .sentinel], laidTests := true, laidLooks := .later }
def HopcroftLeastUptoCardSaid : Prop := Claim7.holds Tryd.pinned (.plain (OpenSpec.upto hopcroftLeastSpec)) hopcroftLeastUptoCard

/-- THE SECOND FORM's CARD OF 'dofferlaw19.HopcroftAgain'. -/
def hopcroftAgainUptoCard : Claim7 := { stood := { row := hopcroftAgainUptoRow, standIns := [], harness := (true, "e9d7c2aa77e173caaebe776eaf31d6a10b6d81339a33d5aed3eea1f3316e8af7"), looks := false }, kinds := [], alts := [], laidByText := true, laidKinds := [.data, .sentinel], laidTests := true, laidLooks := .later }
def HopcroftAgainUptoCardSaid : Prop := Claim7.holds Tryd.pinned (.plain (OpenSpec.upto hopcroftAgainSpec)) hopcroftAgainUptoCard

/-- THE SECOND FORM's CARD OF 'dofferlaw20.CanonOne'. -/
def canonOneUptoCard : Claim7 := { stood := { row := canonOneUptoRow, standIns := [], harness := (true, "e9d7c2aa77e173caaebe776eaf31d6a10b6d81339a33d5aed3eea1f3316e8af7"), looks := false }, kinds := [], alts := [], laidByText := true, laidKinds := [.data, .sentinel], laidTests := true, laidLooks := .later }
def CanonOneUptoCardSaid : Prop := Claim7.holds Tryd.pinned (.plain (OpenSpec.upto canonOneSpec)) canonOneUptoCard

/-- THE SECOND FORM's CARD OF 'dofferlaw19.HopcroftFewest'. -/
def hopcroftFewestUptoCard : Claim7 := { stood := { row := hopcroftFewestUptoRow, standIns := [], harness := (true, "e9d7c2aa77e173caaebe776eaf31d6a10b6d81339a33d5aed3eea1f3316e8af7"), looks := false }, kinds := [], alts := [], laidByText := true, laidKinds := [.data, .sentinel], laidTests := true, laidLooks := .later }
def HopcroftFewestUptoCardSaid : Prop := Claim7.holds Tryd.pinned (.plain (OpenSpec.upto hopcroftFewestSpec)) hopcroftFewestUptoCard
end Rows
end Go.Proofs.YteiaphkejkgfkaaDoor
