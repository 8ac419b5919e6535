/-
  DERIVED. GIVEN WITH THE SEED: THE CARDS: each row of YtealkahefalaeaaGreatDoorRows.lean that lists a variable, with what it lists TIED to the program's text (the seventh form; the later family's looks); each row that meets fmt, with fmt's text TOLD by the authors' own Lean function (tested against real Go, not proved from fmt's source: count such statements apart). THE CARD IS WHAT COUNTS. Prove the row's statement (the work); the ties are given (YtealkahefalaeaaGreatDoorTie.lean); close each card by the builder's one call (the guide's Derived/Test/ToyasCard.lean, 'card_holds'). Laid BY PROGRAM, IN A SANDBOX (cutbox-door.mjs). By AI agents, Wed Nov 11 2026. No macro, syntax, notation, axiom, sorry.
-/
import Derived.Test.YtealkahefalaeaaGreatDoorRows
import GoSem.ClaimSeven
namespace Go.Proofs.YtealkahefalaeaaGreatDoor
namespace Rows

/-- THE TIED CARD OF 'dofferlaw15.NfaRight'. -/
def nfaRightCard : Claim7 := { stood := { row := nfaRightRow, standIns := [], harness := (true, "e13f602d86ca2074340e59dfbf8939949d04d1e13132466674833c2c48f1b413"), looks := true }, kinds := [], alts := [], laidByText := true, laidKinds := [.data, .sentinel, .sentinel, .sentinel, .sentinel, .sentinel, .sentinel, .sentinel, .sentinel, .sentinel, .sentinel, .sentinel, .pinned], laidTests := true, laidLooks := .later }
def NfaRightCardSaid : Prop := Claim7.holds Tryz.pinned (.plain (OpenSpec.ofChange nfaRightSpec)) nfaRightCard

/-- THE TIED CARD OF 'dofferlaw16.WalkRuns'. -/
def walkRunsCard : Claim7 := { stood := { row := walkRunsRow, standIns := [], harness := (true, "e13f602d86ca2074340e59dfbf8939949d04d1e13132466674833c2c48f1b413"), looks := true }, kinds := [], alts := [], laidByText := true, laidKinds := [.data, .data, .sentinel, .sentinel, .sentinel, .sentinel, .sentinel, .sentinel, .sentinel, .sentinel, .sentinel, .sentinel, .sentinel, .pinned], laidTests := true, laidLooks := .later }
def WalkRunsCardSaid : Prop := Claim7.holds Tryz.pinned (.plain (OpenSpec.ofChange walkRunsSpec)) walkRunsCard

/-- THE TIED CARD OF 'dofferlaw16.WalkClosed'. -/
def walkClosedCard : Claim7 := { stood := { row := walkClosedRow, standIns := [], harness := (true, "e13f602d86ca2074340e59dfbf8939949d04d1e13132466674833c2c48f1b413"), looks := true }, kinds := [], alts := [], laidByText := true, laidKinds := [.data, .data, .sentinel, .sentinel, .sentinel, .sentinel, .sentinel, .sentinel, .sentinel, .sentinel, .sentinel, .sentinel, .sentinel, .pinned], laidTests := true, laidLooks := .later }
def WalkClosedCardSaid : Prop := Claim7.holds Tryz.pinned (.plain (OpenSpec.ofChange walkClosedSpec)) walkClosedCard

/-- THE TIED CARD OF 'dofferlaw16.WalkSteps'. -/
def walkStepsCard : Claim7 := { stood := { row := walkStepsRow, standIns := [], harness := (true, "e13f602d86ca2074340e59dfbf8939949d04d1e13132466674833c2c48f1b413"), looks := true }, kinds := [], alts := [], laidByText := true, laidKinds := [.data, .data, .sentinel, .sentinel, .sentinel, .sentinel, .sentinel, .sentinel, .sentinel, .sentinel, .sentinel, .sentinel, .sentinel, .pinned], laidTests := true, laidLooks := .later }
def WalkStepsCardSaid : Prop := Claim7.holds Tryz.pinned (.plain (OpenSpec.ofChange walkStepsSpec)) walkStepsCard

/-- THE TIED CARD OF 'dofferlaw15.NfaBytes'. -/
def nfaBytesCard : Claim7 := { stood := { row := nfaBytesRow, standIns := [], harness := (true, "e13f602d86ca2074340e59dfbf8939949d04d1e13132466674833c2c48f1b413"), looks := true }, kinds := [], alts := [], laidByText := true, laidKinds := [.data, .data, .sentinel, .sentinel, .sentinel, .sentinel, .sentinel, .sentinel, .sentinel, .sentinel, .sentinel, .sentinel, .sentinel, .pinned], laidTests := true, laidLooks := .later }
def NfaBytesCardSaid : Prop := Claim7.holds Tryz.pinned (.plain (OpenSpec.ofChange nfaBytesSpec)) nfaBytesCard

/-- THE TIED CARD OF 'dofferlaw17.SubsetCopies'. -/
def subsetCopiesCard : Claim7 := { stood := { row := subsetCopiesRow, standIns := [], harness := (true, "e13f602d86ca2074340e59dfbf8939949d04d1e13132466674833c2c48f1b413"), looks := true }, kinds := [], alts := [], laidByText := true, laidKinds := [.data, .data, .sentinel, .sentinel, .sentinel, .sentinel, .sentinel, .sentinel, .sentinel, .sentinel, .sentinel, .sentinel, .sentinel, .pinned], laidTests := true, laidLooks := .later }
def SubsetCopiesCardSaid : Prop := Claim7.holds Tryz.pinned (.plain (OpenSpec.ofChange subsetCopiesSpec)) subsetCopiesCard

/-- THE TIED CARD OF 'dofferlaw21.ProductDiffer'. -/
def productDifferCard : Claim7 := { stood := { row := productDifferRow, standIns := [], harness := (true, "e13f602d86ca2074340e59dfbf8939949d04d1e13132466674833c2c48f1b413"), looks := true }, kinds := [], alts := [], laidByText := true, laidKinds := [.data, .data, .sentinel, .sentinel, .sentinel, .sentinel, .sentinel, .sentinel, .sentinel, .sentinel, .sentinel, .sentinel, .sentinel, .pinned], laidTests := true, laidLooks := .later }
def ProductDifferCardSaid : Prop := Claim7.holds Tryz.pinned (.plain (OpenSpec.ofChange productDifferSpec)) productDifferCard

/-- THE TIED CARD OF 'dofferlaw17.SubsetRuns'. -/
def subsetRunsCard : Claim7 := { stood := { row := subsetRunsRow, standIns := [], harness := (true, "e13f602d86ca2074340e59dfbf8939949d04d1e13132466674833c2c48f1b413"), looks := true }, kinds := [], alts := [], laidByText := true, laidKinds := [.data, .data, .sentinel, .sentinel, .sentinel, .sentinel, .sentinel, .sentinel, .sentinel, .sentinel, .sentinel, .sentinel, .sentinel, .pinned], laidTests := true, laidLooks := .later }
def SubsetRunsCardSaid : Prop := Claim7.holds Tryz.pinned (.plain (OpenSpec.ofChange subsetRunsSpec)) subsetRunsCard

/-- THE TIED CARD OF 'dofferlaw17.SubsetBuild'. -/
def subsetBuildCard : Claim7 := { stood := { row := subsetBuildRow, standIns := [], harness := (true, "e13f602d86ca2074340e59dfbf8939949d04d1e13132466674833c2c48f1b413"), looks := true }, kinds := [], alts := [], laidByText := true, laidKinds := [.data, .data, .sentinel, .sentinel, .sentinel, .sentinel, .sentinel, .sentinel, .sentinel, .sentinel, .sentinel, .sentinel, .sentinel, .sentinel, .sentinel, .sentinel, .sentinel, .sentinel, .sentinel, .sentinel, .pinned], laidTests := true, laidLooks := .later }
def SubsetBuildCardSaid : Prop := Claim7.holds Tryz.pinned (.plain (OpenSpec.ofChange subsetBuildSpec)) subsetBuildCard

/-- THE TIED CARD OF 'dofferlaw17.SubsetFinds'. -/
def subsetFindsCard : Claim7 := { stood := { row := subsetFindsRow, standIns := [], harness := (true, "e13f602d86ca2074340e59dfbf8939949d04d1e13132466674833c2c48f1b413"), looks := true }, kinds := [], alts := [], laidByText := true, laidKinds := [.data, .data, .sentinel, .sentinel, .sentinel, .sentinel, .sentinel, .sentinel, .sentinel, .sentinel, .sentinel, .sentinel, .sentinel, .sentinel, .sentinel, .sentinel, .sentinel, .sentinel, .sentinel, .sentinel, .pinned], laidTests := true, laidLooks := .later }
def SubsetFindsCardSaid : Prop := Claim7.holds Tryz.pinned (.plain (OpenSpec.ofChange subsetFindsSpec)) subsetFindsCard

/-- THE TIED CARD OF 'dofferlaw21.ProductTurned'. -/
def productTurnedCard : Claim7 := { stood := { row := productTurnedRow, standIns := [], harness := (true, "e13f602d86ca2074340e59dfbf8939949d04d1e13132466674833c2c48f1b413"), looks := true }, kinds := [], alts := [], laidByText := true, laidKinds := [.data, .data, .sentinel, .sentinel, .sentinel, .sentinel, .sentinel, .sentinel, .sentinel, .sentinel, .sentinel, .sentinel, .sentinel, .pinned], laidTests := true, laidLooks := .later }
def ProductTurnedCardSaid : Prop := Claim7.holds Tryz.pinned (.plain (OpenSpec.ofChange productTurnedSpec)) productTurnedCard

/-- THE TIED CARD OF 'dofferlaw21.ProductBoth'. -/
def productBothCard : Claim7 := { stood := { row := productBothRow, standIns := [], harness := (true, "e13f602d86ca2074340e59dfbf8939949d04d1e13132466674833c2c48f1b413"), looks := true }, kinds := [], alts := [], laidByText := true, laidKinds := [.data, .data, .sentinel, .sentinel, .sentinel, .sentinel, .sentinel, .sentinel, .sentinel, .sentinel, .sentinel, .sentinel, .sentinel, .sentinel, .sentinel, .sentinel, .sentinel, .sentinel, .sentinel, .sentinel, .pinned], laidTests := true, laidLooks := .later }
def ProductBothCardSaid : Prop := Claim7.holds Tryz.pinned (.plain (OpenSpec.ofChange productBothSpec)) productBothCard

/-- THE SECOND FORM's CARD OF 'dofferlaw15.NfaRight'. -/
def nfaRightUptoCard : Claim7 := { stood := { row := nfaRightUptoRow, standIns := [], harness := (true, "e13f602d86ca2074340e59dfbf8939949d04d1e13132466674833c2c48f1b413"), looks := true }, kinds := [], alts := [], laidByText := true, laidKinds := [.data, .sentinel, .sentinel, .sentinel, .sentinel, .sentinel, .sentinel, .sentinel, .sentinel, .sentinel, .sentinel, .sentinel, .pinned], laidTests := true, laidLooks := .later }
def NfaRightUptoCardSaid : Prop := Claim7.holds Tryz.pinned (.plain (OpenSpec.upto nfaRightSpec)) nfaRightUptoCard

/-- THE SECOND FORM's CARD OF 'dofferlaw16.WalkRuns'. -/
def walkRunsUptoCard : Claim7 := { stood := { row := walkRunsUptoRow, standIns := [], harness := (true, "e13f602d86ca2074340e59dfbf8939949d04d1e13132466674833c2c48f1b413"), looks := true }, kinds := [], alts := [], laidByText := true, laidKinds := [.data, .data, .sentinel, .sentinel, .sentinel, .sentinel, .sentinel, .sentinel, .sentinel, .sentinel, .sentinel, .sentinel, .sentinel, .pinned], laidTests := true, laidLooks := .later }
def WalkRunsUptoCardSaid : Prop := Claim7.holds Tryz.pinned (.plain (OpenSpec.upto walkRunsSpec)) walkRunsUptoCard

/-- THE SECOND FORM's CARD OF 'dofferlaw16.WalkClosed'. -/
def walkClosedUptoCard : Claim7 := { stood := { row := walkClosedUptoRow, standIns := [], harness := (true, "e13f602d86ca2074340e59dfbf8939949d04d1e13132466674833c2c48f1b413"), looks := true }, kinds := [], alts := [], laidByText := true, laidKinds := [.data, .data, .sentinel, .sentinel, .sentinel, .sentinel, .sentinel, .sentinel, .sentinel, .sentinel, .sentinel, .sentinel, .sentinel, .pinned], laidTests := true, laidLooks := .later }
def WalkClosedUptoCardSaid : Prop := Claim7.holds Tryz.pinned (.plain (OpenSpec.upto walkClosedSpec)) walkClosedUptoCard

/-- THE SECOND FORM's CARD OF 'dofferlaw16.WalkSteps'. -/
def walkStepsUptoCard : Claim7 := { stood := { row := walkStepsUptoRow, standIns := [], harness := (true, "e13f602d86ca2074340e59dfbf8939949d04d1e13132466674833c2c48f1b413"), looks := true }, kinds := [], alts := [], laidByText := true, laidKinds := [.data, .data, .sentinel, .sentinel, .sentinel, .sentinel, .sentinel, .sentinel, .sentinel, .sentinel, .sentinel, .sentinel, .sentinel, .pinned], laidTests := true, laidLooks := .later }
def WalkStepsUptoCardSaid : Prop := Claim7.holds Tryz.pinned (.plain (OpenSpec.upto walkStepsSpec)) walkStepsUptoCard

/-- THE SECOND FORM's CARD OF 'dofferlaw15.NfaBytes'. -/
def nfaBytesUptoCard : Claim7 := { stood := { row := nfaBytesUptoRow, standIns := [], harness := (true, "e13f602d86ca2074340e59dfbf8939949d04d1e13132466674833c2c48f1b413"), looks := true }, kinds := [], alts := [], laidByText := true, laidKinds := [.data, .data, .sentinel, .sentinel, .sentinel, .sentinel, .sentinel, .sentinel, .sentinel, .sentinel, .sentinel, .sentinel, .sentinel, .pinned], laidTests := true, laidLooks := .later }
def NfaBytesUptoCardSaid : Prop := Claim7.holds Tryz.pinned (.plain (OpenSpec.upto nfaBytesSpec)) nfaBytesUptoCard

/-- THE SECOND FORM's CARD OF 'dofferlaw17.SubsetCopies'. -/
def subsetCopiesUptoCard : Claim7 := { stood := { row := subsetCopiesUptoRow, standIns := [], harness := (true, "e13f602d86ca2074340e59dfbf8939949d04d1e13132466674833c2c48f1b413"), looks := true }, kinds := [], alts := [], laidByText := true, laidKinds := [.data, .data, .sentinel, .sentinel, .sentinel, .sentinel, .sentinel, .sentinel, .sentinel, .sentinel, .sentinel, .sentinel, .sentinel, .pinned], laidTests := true, laidLooks := .later }
def SubsetCopiesUptoCardSaid : Prop := Claim7.holds Tryz.pinned (.plain (OpenSpec.upto subsetCopiesSpec)) subsetCopiesUptoCard

/-- THE SECOND FORM's CARD OF 'dofferlaw21.ProductDiffer'. -/
def productDifferUptoCard : Claim7 := { stood := { row := productDifferUptoRow, standIns := [], harness := (true, "e13f602d86ca2074340e59dfbf8939949d04d1e13132466674833c2c48f1b413"), looks := true }, kinds := [], alts := [], laidByText := true, laidKinds := [.data, .data, .sentinel, .sentinel, .sentinel, .sentinel, .sentinel, .sentinel, .sentinel, .sentinel, .sentinel, .sentinel, .sentinel, .pinned], laidTests := true, laidLooks := .later }
def ProductDifferUptoCardSaid : Prop := Claim7.holds Tryz.pinned (.plain (OpenSpec.upto productDifferSpec)) productDifferUptoCard

/-- THE SECOND FORM's CARD OF 'dofferlaw17.SubsetRuns'. -/
def subsetRunsUptoCard : Claim7 := { stood := { row := subsetRunsUptoRow, standIns := [], harness := (true, "e13f602d86ca2074340e59dfbf8939949d04d1e13132466674833c2c48f1b413"), looks := true }, kinds := [], alts := [], laidByText := true, laidKinds := [.data, .data, .sentinel, .sentinel, .sentinel, .sentinel, .sentinel, .sentinel, .sentinel, .sentinel, .sentinel, .sentinel, .sentinel, .pinned], laidTests := true, laidLooks := .later }
def SubsetRunsUptoCardSaid : Prop := Claim7.holds Tryz.pinned (.plain (OpenSpec.upto subsetRunsSpec)) subsetRunsUptoCard

/-- THE SECOND FORM's CARD OF 'dofferlaw17.SubsetBuild'. -/
def subsetBuildUptoCard : Claim7 := { stood := { row := subsetBuildUptoRow, standIns := [], harness := (true, "e13f602d86ca2074340e59dfbf8939949d04d1e13132466674833c2c48f1b413"), looks := true }, kinds := [], alts := [], laidByText := true, laidKinds := [.data, .data, .sentinel, .sentinel, .sentinel, .sentinel, .sentinel, .sentinel, .sentinel, .sentinel, .sentinel, .sentinel, .sentinel, .sentinel, .sentinel, .sentinel, .sentinel, .sentinel, .sentinel, .sentinel, .pinned], laidTests := true, laidLooks := .later }
def SubsetBuildUptoCardSaid : Prop := Claim7.holds Tryz.pinned (.plain (OpenSpec.upto subsetBuildSpec)) subsetBuildUptoCard

/-- THE SECOND FORM's CARD OF 'dofferlaw17.SubsetFinds'. -/
def subsetFindsUptoCard : Claim7 := { stood := { row := subsetFindsUptoRow, standIns := [], harness := (true, "e13f602d86ca2074340e59dfbf8939949d04d1e13132466674833c2c48f1b413"), looks := true }, kinds := [], alts := [], laidByText := true, laidKinds := [.data, .data, .sentinel, .sentinel, .sentinel, .sentinel, .sentinel, .sentinel, .sentinel, .sentinel, .sentinel, .sentinel, .sentinel, .sentinel, .sentinel, .sentinel, .sentinel, .sentinel, .sentinel, .sentinel, .pinned], laidTests := true, laidLooks := .later }
def SubsetFindsUptoCardSaid : Prop := Claim7.holds Tryz.pinned (.plain (OpenSpec.upto subsetFindsSpec)) subsetFindsUptoCard

/-- THE SECOND FORM's CARD OF 'dofferlaw21.ProductTurned'. -/
def productTurnedUptoCard : Claim7 := { stood := { row := productTurnedUptoRow, standIns := [], harness := (true, "e13f602d86ca2074340e59dfbf8939949d04d1e13132466674833c2c48f1b413"), looks := true }, kinds := [], alts := [], laidByText := true, laidKinds := [.data, .data, .sentinel, .sentinel, .sentinel, .sentinel, .sentinel, .sentinel, .sentinel, .sentinel, .sentinel, .sentinel, .sentinel, .pinned], laidTests := true, laidLooks := .later }
def ProductTurnedUptoCardSaid : Prop := Claim7.holds Tryz.pinned (.plain (OpenSpec.upto productTurnedSpec)) productTurnedUptoCard

/-- THE SECOND FORM's CARD OF 'dofferlaw21.ProductBoth'. -/
def productBothUptoCard : Claim7 := { stood := { row := productBothUptoRow, standIns := [], harness := (true, "e13f602d86ca2074340e59dfbf8939949d04d1e13132466674833c2c48f1b413"), looks := true }, kinds := [], alts := [], laidByText := true, laidKinds := [.data, .data, .sentinel, .sentinel, .sentinel, .sentinel, .sentinel, .sentinel, .sentinel, .sentinel, .sentinel, .sentinel, .sentinel, .sentinel, .sentinel, .sentinel, .sentinel, .sentinel, .sentinel, .sentinel, .pinned], laidTests := true, laidLooks := .later }
def ProductBothUptoCardSaid : Prop := Claim7.holds Tryz.pinned (.plain (OpenSpec.upto productBothSpec)) productBothUptoCard
end Rows
end Go.Proofs.YtealkahefalaeaaGreatDoor
