/-
  NARROWER THAN 'FOR EVERY INPUT', by the rows' own cells (each row's printed sentence says how): NfaFiles: laid · RulesRead: laid · MunchWhole: laid · MunchJoin: laid.
  DERIVED. THE GIVEN ROWS OF THIS SEAT. 4 by the template 'for every input the law returns true; each argument reads behind the call as it read before'; 0 by the template 'total and deterministic' (their statements: YtnkednnnkifenaaGreatDoorTotals.lean).
  GIVEN WITH THE SEED: the statements are not yours to turn. If you find one false, say at which input.
  Laid BY PROGRAM, IN A SANDBOX (cutbox-rows.mjs): the forced cells as the released guide's own fill.sh prints them over the translation b4461666c1046332… (all of the seat's roots in one cut). By AI agents, Wed Nov 11 2026. No macro, syntax, notation, axiom, sorry.
-/
import Derived.Test.YtnkednnnkifenaaGreatDoorChecked
import GoSem.PinnedTables
import GoSem.Claim
import GoSem.ClaimJoined
import GoSem.ClaimMapViews
import Derived.JoinedTies
import Derived.KernelRfl
namespace Go.Proofs.YtnkednnnkifenaaGreatDoor
/- THE CELL 'sum', in the pinned program and in every row, IS THE sha256 OF THE DUMP (.gsa) THAT YtnkednnnkifenaaGreatDoorProg.lean LOADS. Nothing in Lean hashes anything: it is a label: what it is worth is what the hold of that sum in a sandbox is worth. -/
noncomputable def Tryz.pinned : Pinned := { name := "ytnkednnnkifenaagreatdoor", sum := "b4461666c104633292dbc82ae2ecfa20d8cf86514e0ea96df24930d7449f92c7", checked := Tryz.checked }
namespace Rows
def none {H : Type} : Left H := { results := [], args := [] }

/- WHAT THE LISTED PACKAGE-LEVEL VARIABLES READ AS WHEN THE CALL BEGINS. Each datum BY PROGRAM (the guide's laid-datum.mjs) off the statement by which the dump's own 'gosem.cut.vars' lays the variable. In a bare row this is a premise. The card (YtnkednnnkifenaaGreatDoorCards.lean) ties it to the program's text. -/
def laid_unicode_utf8_acceptRanges {H : Type} : DataW H := .agg [.agg [.lit (.int .u8 128), .lit (.int .u8 191)], .agg [.lit (.int .u8 160), .lit (.int .u8 191)], .agg [.lit (.int .u8 128), .lit (.int .u8 159)], .agg [.lit (.int .u8 144), .lit (.int .u8 191)], .agg [.lit (.int .u8 128), .lit (.int .u8 143)], .agg [.lit (.int .u8 0), .lit (.int .u8 0)], .agg [.lit (.int .u8 0), .lit (.int .u8 0)], .agg [.lit (.int .u8 0), .lit (.int .u8 0)], .agg [.lit (.int .u8 0), .lit (.int .u8 0)], .agg [.lit (.int .u8 0), .lit (.int .u8 0)], .agg [.lit (.int .u8 0), .lit (.int .u8 0)], .agg [.lit (.int .u8 0), .lit (.int .u8 0)], .agg [.lit (.int .u8 0), .lit (.int .u8 0)], .agg [.lit (.int .u8 0), .lit (.int .u8 0)], .agg [.lit (.int .u8 0), .lit (.int .u8 0)], .agg [.lit (.int .u8 0), .lit (.int .u8 0)]]
def laid_doffer_api_ErrRange {H : Type} : DataW H := .iface "*errors.errorString" (.ptr (.agg [.lit (.string [97, 32, 110, 117, 109, 98, 101, 114, 32, 105, 115, 32, 111, 117, 116, 32, 111, 102, 32, 105, 116, 115, 32, 114, 97, 110, 103, 101])]))
def laid_doffer_api_ErrShort {H : Type} : DataW H := .iface "*errors.errorString" (.ptr (.agg [.lit (.string [115, 111, 109, 101, 116, 104, 105, 110, 103, 32, 105, 115, 32, 109, 105, 115, 115, 105, 110, 103])]))
def laid_doffer_api_ErrLong {H : Type} : DataW H := .iface "*errors.errorString" (.ptr (.agg [.lit (.string [116, 104, 101, 114, 101, 32, 105, 115, 32, 109, 111, 114, 101, 32, 116, 104, 97, 110, 32, 109, 97, 121, 32, 98, 101])]))
def laid_doffer_api_ErrForm {H : Type} : DataW H := .iface "*errors.errorString" (.ptr (.agg [.lit (.string [105, 116, 32, 105, 115, 32, 110, 111, 116, 32, 111, 102, 32, 105, 116, 115, 32, 102, 111, 114, 109])]))
def laid_doffer_api_ErrName {H : Type} : DataW H := .iface "*errors.errorString" (.ptr (.agg [.lit (.string [116, 104, 101, 114, 101, 32, 105, 115, 32, 110, 111, 32, 115, 117, 99, 104, 32, 110, 97, 109, 101])]))
def laid_doffer_api_ErrDup {H : Type} : DataW H := .iface "*errors.errorString" (.ptr (.agg [.lit (.string [116, 104, 101, 114, 101, 32, 105, 115, 32, 111, 110, 101, 32, 97, 108, 114, 101, 97, 100, 121])]))
def laid_doffer_api_ErrDepth {H : Type} : DataW H := .iface "*errors.errorString" (.ptr (.agg [.lit (.string [105, 116, 32, 105, 115, 32, 110, 101, 115, 116, 101, 100, 32, 116, 111, 111, 32, 100, 101, 101, 112])]))
def laid_doffer_api_ErrLoop {H : Type} : DataW H := .iface "*errors.errorString" (.ptr (.agg [.lit (.string [110, 97, 109, 101, 115, 32, 117, 115, 101, 32, 111, 110, 101, 32, 97, 110, 111, 116, 104, 101, 114, 32, 105, 110, 32, 97, 32, 114, 105, 110, 103])]))
def laid_doffer_api_ErrLimit {H : Type} : DataW H := .iface "*errors.errorString" (.ptr (.agg [.lit (.string [105, 116, 32, 103, 114, 111, 119, 115, 32, 98, 101, 121, 111, 110, 100, 32, 105, 116, 115, 32, 108, 105, 109, 105, 116])]))
def laid_doffer_api_ErrSum {H : Type} : DataW H := .iface "*errors.errorString" (.ptr (.agg [.lit (.string [116, 104, 101, 32, 99, 104, 101, 99, 107, 32, 115, 117, 109, 32, 105, 115, 32, 110, 111, 116, 32, 114, 105, 103, 104, 116])]))
def laid_doffer_api_ErrVersion {H : Type} : DataW H := .iface "*errors.errorString" (.ptr (.agg [.lit (.string [105, 116, 32, 105, 115, 32, 111, 102, 32, 97, 110, 111, 116, 104, 101, 114, 32, 118, 101, 114, 115, 105, 111, 110])]))
def laid_doffer_api_ErrIndex {H : Type} : DataW H := .iface "*errors.errorString" (.ptr (.agg [.lit (.string [97, 32, 112, 108, 97, 99, 101, 32, 105, 115, 32, 111, 117, 116, 32, 111, 102, 32, 98, 111, 117, 110, 100, 115])]))
def laid_doffer_api_ErrFull {H : Type} : DataW H := .iface "*errors.errorString" (.ptr (.agg [.lit (.string [116, 104, 101, 114, 101, 32, 105, 115, 32, 110, 111, 32, 114, 111, 111, 109])]))
def laid_doffer_api_ErrCredit {H : Type} : DataW H := .iface "*errors.errorString" (.ptr (.agg [.lit (.string [116, 104, 101, 32, 99, 114, 101, 100, 105, 116, 32, 105, 115, 32, 117, 115, 101, 100, 32, 117, 112])]))
def laid_doffer_api_ErrNone {H : Type} : DataW H := .iface "*errors.errorString" (.ptr (.agg [.lit (.string [116, 104, 101, 114, 101, 32, 105, 115, 32, 110, 111, 110, 101])]))
def laid_doffer_api_ErrState {H : Type} : DataW H := .iface "*errors.errorString" (.ptr (.agg [.lit (.string [105, 116, 32, 99, 97, 110, 32, 110, 111, 116, 32, 98, 101, 32, 100, 111, 110, 101, 32, 110, 111, 119])]))
def laid_doffer_api_ErrParked {H : Type} : DataW H := .iface "*errors.errorString" (.ptr (.agg [.lit (.string [105, 116, 32, 119, 97, 105, 116, 115, 32, 102, 111, 114, 32, 105, 116, 115, 32, 111, 117, 116, 112, 117, 116, 32, 116, 111, 32, 98, 101, 32, 116, 97, 107, 101, 110])]))
def laid_doffer_api_ErrTag {H : Type} : DataW H := .iface "*errors.errorString" (.ptr (.agg [.lit (.string [97, 110, 111, 116, 104, 101, 114, 32, 107, 105, 110, 100, 32, 105, 115, 32, 119, 97, 110, 116, 101, 100])]))
/-- One of Go's own tables, pinned by name: the form's constant. -/
def laid_unicode_utf8_first : DataW Unit := Go.Pinned.utf8First
def laid_math_bits_deBruijn64tab {H : Type} : DataW H := .agg [.lit (.int .u8 0), .lit (.int .u8 1), .lit (.int .u8 56), .lit (.int .u8 2), .lit (.int .u8 57), .lit (.int .u8 49), .lit (.int .u8 28), .lit (.int .u8 3), .lit (.int .u8 61), .lit (.int .u8 58), .lit (.int .u8 42), .lit (.int .u8 50), .lit (.int .u8 38), .lit (.int .u8 29), .lit (.int .u8 17), .lit (.int .u8 4), .lit (.int .u8 62), .lit (.int .u8 47), .lit (.int .u8 59), .lit (.int .u8 36), .lit (.int .u8 45), .lit (.int .u8 43), .lit (.int .u8 51), .lit (.int .u8 22), .lit (.int .u8 53), .lit (.int .u8 39), .lit (.int .u8 33), .lit (.int .u8 30), .lit (.int .u8 24), .lit (.int .u8 18), .lit (.int .u8 12), .lit (.int .u8 5), .lit (.int .u8 63), .lit (.int .u8 55), .lit (.int .u8 48), .lit (.int .u8 27), .lit (.int .u8 60), .lit (.int .u8 41), .lit (.int .u8 37), .lit (.int .u8 16), .lit (.int .u8 46), .lit (.int .u8 35), .lit (.int .u8 44), .lit (.int .u8 21), .lit (.int .u8 52), .lit (.int .u8 32), .lit (.int .u8 23), .lit (.int .u8 11), .lit (.int .u8 54), .lit (.int .u8 26), .lit (.int .u8 40), .lit (.int .u8 15), .lit (.int .u8 34), .lit (.int .u8 20), .lit (.int .u8 31), .lit (.int .u8 10), .lit (.int .u8 25), .lit (.int .u8 14), .lit (.int .u8 19), .lit (.int .u8 9), .lit (.int .u8 13), .lit (.int .u8 8), .lit (.int .u8 7), .lit (.int .u8 6)]

/-- 'dofferlaw15.NfaFiles': WHATEVER THE INPUT: true; the input reads as it did. -/
def nfaFilesSpec : ChangeSpec := { name := "nfaFiles", fn := fun _ => fun
  | [d] => { results := [.lit (.bool true)], args := [d] }
  | _ => none }
def nfaFilesRow : OpenClaim := { program := "ytnkednnnkifenaagreatdoor", sum := "b4461666c104633292dbc82ae2ecfa20d8cf86514e0ea96df24930d7449f92c7", func := "doffer/dofferlaw15.NfaFiles", spec := "nfaFiles", inPlace := ["internal/bytealg.IndexByteString", "internal/bytealg.IndexString", "internal/bytealg.CountString", "internal/reflectlite.TypeOf"], unfollowed := true, recurses := true, named := ["doffer/api.ErrLong", "unicode/utf8.first", "unicode/utf8.acceptRanges", "internal/bytealg.MaxLen", "doffer/api.ErrForm", "doffer/api.ErrName", "doffer/api.ErrShort", "doffer/api.ErrDup", "doffer/api.ErrFull", "doffer/api.ErrDepth", "doffer/api.ErrLimit", "doffer/api.ErrRange", "doffer/api.ErrNone", "doffer/api.ErrLoop", "doffer/api.ErrSum", "doffer/api.ErrVersion", "doffer/api.ErrIndex", "doffer/api.ErrCredit", "doffer/api.ErrState", "doffer/api.ErrParked", "doffer/api.ErrTag"], apart := false, laid := [("unicode/utf8.acceptRanges", laid_unicode_utf8_acceptRanges), ("doffer/api.ErrRange", laid_doffer_api_ErrRange), ("doffer/api.ErrShort", laid_doffer_api_ErrShort), ("doffer/api.ErrLong", laid_doffer_api_ErrLong), ("doffer/api.ErrForm", laid_doffer_api_ErrForm), ("doffer/api.ErrName", laid_doffer_api_ErrName), ("doffer/api.ErrDup", laid_doffer_api_ErrDup), ("doffer/api.ErrDepth", laid_doffer_api_ErrDepth), ("doffer/api.ErrLoop", laid_doffer_api_ErrLoop), ("doffer/api.ErrLimit", laid_doffer_api_ErrLimit), ("doffer/api.ErrSum", laid_doffer_api_ErrSum), ("doffer/api.ErrVersion", laid_doffer_api_ErrVersion), ("doffer/api.ErrIndex", laid_doffer_api_ErrIndex), ("doffer/api.ErrFull", laid_doffer_api_ErrFull), ("doffer/api.ErrCredit", laid_doffer_api_ErrCredit), ("doffer/api.ErrNone", laid_doffer_api_ErrNone), ("doffer/api.ErrState", laid_doffer_api_ErrState), ("doffer/api.ErrParked", laid_doffer_api_ErrParked), ("doffer/api.ErrTag", laid_doffer_api_ErrTag), ("unicode/utf8.first", laid_unicode_utf8_first)] }
def NfaFilesSaid : Prop := nfaFilesRow.holds Tryz.pinned (OpenSpec.ofChange nfaFilesSpec)

/-- ITS FALSE NEIGHBOUR: 'it returns false'. Refute it at one input. -/
def nfaFilesWrong : ChangeSpec := { name := "nfaFiles", fn := fun _ => fun
  | [d] => { results := [.lit (.bool false)], args := [d] }
  | _ => none }
def NfaFilesWrongFalsely : Prop := nfaFilesRow.holds Tryz.pinned (OpenSpec.ofChange nfaFilesWrong)

/-- 'dofferlaw14.RulesRead': WHATEVER THE INPUT: true; the input reads as it did. -/
def rulesReadSpec : ChangeSpec := { name := "rulesRead", fn := fun _ => fun
  | [d] => { results := [.lit (.bool true)], args := [d] }
  | _ => none }
def rulesReadRow : OpenClaim := { program := "ytnkednnnkifenaagreatdoor", sum := "b4461666c104633292dbc82ae2ecfa20d8cf86514e0ea96df24930d7449f92c7", func := "doffer/dofferlaw14.RulesRead", spec := "rulesRead", inPlace := ["internal/bytealg.IndexByteString", "internal/bytealg.IndexString", "internal/bytealg.CountString", "internal/reflectlite.TypeOf"], unfollowed := true, recurses := true, named := ["doffer/api.ErrLong", "unicode/utf8.first", "unicode/utf8.acceptRanges", "internal/bytealg.MaxLen", "doffer/api.ErrForm", "doffer/api.ErrName", "doffer/api.ErrShort", "doffer/api.ErrDup", "doffer/api.ErrFull", "doffer/api.ErrDepth", "doffer/api.ErrLimit", "doffer/api.ErrRange", "doffer/api.ErrNone", "doffer/api.ErrLoop", "math/bits.deBruijn64tab", "doffer/api.ErrSum", "doffer/api.ErrVersion", "doffer/api.ErrIndex", "doffer/api.ErrCredit", "doffer/api.ErrState", "doffer/api.ErrParked", "doffer/api.ErrTag"], apart := false, laid := [("math/bits.deBruijn64tab", laid_math_bits_deBruijn64tab), ("unicode/utf8.acceptRanges", laid_unicode_utf8_acceptRanges), ("doffer/api.ErrRange", laid_doffer_api_ErrRange), ("doffer/api.ErrShort", laid_doffer_api_ErrShort), ("doffer/api.ErrLong", laid_doffer_api_ErrLong), ("doffer/api.ErrForm", laid_doffer_api_ErrForm), ("doffer/api.ErrName", laid_doffer_api_ErrName), ("doffer/api.ErrDup", laid_doffer_api_ErrDup), ("doffer/api.ErrDepth", laid_doffer_api_ErrDepth), ("doffer/api.ErrLoop", laid_doffer_api_ErrLoop), ("doffer/api.ErrLimit", laid_doffer_api_ErrLimit), ("doffer/api.ErrSum", laid_doffer_api_ErrSum), ("doffer/api.ErrVersion", laid_doffer_api_ErrVersion), ("doffer/api.ErrIndex", laid_doffer_api_ErrIndex), ("doffer/api.ErrFull", laid_doffer_api_ErrFull), ("doffer/api.ErrCredit", laid_doffer_api_ErrCredit), ("doffer/api.ErrNone", laid_doffer_api_ErrNone), ("doffer/api.ErrState", laid_doffer_api_ErrState), ("doffer/api.ErrParked", laid_doffer_api_ErrParked), ("doffer/api.ErrTag", laid_doffer_api_ErrTag), ("unicode/utf8.first", laid_unicode_utf8_first)] }
def RulesReadSaid : Prop := rulesReadRow.holds Tryz.pinned (OpenSpec.ofChange rulesReadSpec)

/-- ITS FALSE NEIGHBOUR: 'it returns false'. Refute it at one input. -/
def rulesReadWrong : ChangeSpec := { name := "rulesRead", fn := fun _ => fun
  | [d] => { results := [.lit (.bool false)], args := [d] }
  | _ => none }
def RulesReadWrongFalsely : Prop := rulesReadRow.holds Tryz.pinned (OpenSpec.ofChange rulesReadWrong)

/-- 'dofferlaw27.MunchWhole': WHATEVER THE INPUT: true; the input reads as it did. -/
def munchWholeSpec : ChangeSpec := { name := "munchWhole", fn := fun _ => fun
  | [d1, d2, d3] => { results := [.lit (.bool true)], args := [d1, d2, d3] }
  | _ => none }
def munchWholeRow : OpenClaim := { program := "ytnkednnnkifenaagreatdoor", sum := "b4461666c104633292dbc82ae2ecfa20d8cf86514e0ea96df24930d7449f92c7", func := "doffer/dofferlaw27.MunchWhole", spec := "munchWhole", inPlace := ["internal/bytealg.IndexByteString", "internal/bytealg.IndexString", "internal/bytealg.CountString"], unfollowed := true, recurses := true, named := ["doffer/api.ErrLong", "unicode/utf8.first", "unicode/utf8.acceptRanges", "internal/bytealg.MaxLen", "doffer/api.ErrForm", "doffer/api.ErrName", "doffer/api.ErrShort", "doffer/api.ErrDup", "doffer/api.ErrFull", "doffer/api.ErrDepth", "doffer/api.ErrLimit", "doffer/api.ErrRange", "doffer/api.ErrNone", "doffer/api.ErrLoop", "math/bits.deBruijn64tab"], apart := false, laid := [("math/bits.deBruijn64tab", laid_math_bits_deBruijn64tab), ("unicode/utf8.acceptRanges", laid_unicode_utf8_acceptRanges), ("doffer/api.ErrRange", laid_doffer_api_ErrRange), ("doffer/api.ErrShort", laid_doffer_api_ErrShort), ("doffer/api.ErrLong", laid_doffer_api_ErrLong), ("doffer/api.ErrForm", laid_doffer_api_ErrForm), ("doffer/api.ErrName", laid_doffer_api_ErrName), ("doffer/api.ErrDup", laid_doffer_api_ErrDup), ("doffer/api.ErrDepth", laid_doffer_api_ErrDepth), ("doffer/api.ErrLoop", laid_doffer_api_ErrLoop), ("doffer/api.ErrLimit", laid_doffer_api_ErrLimit), ("doffer/api.ErrFull", laid_doffer_api_ErrFull), ("doffer/api.ErrNone", laid_doffer_api_ErrNone), ("unicode/utf8.first", laid_unicode_utf8_first)] }
def MunchWholeSaid : Prop := munchWholeRow.holds Tryz.pinned (OpenSpec.ofChange munchWholeSpec)

/-- ITS FALSE NEIGHBOUR: 'it returns false'. Refute it at one input. -/
def munchWholeWrong : ChangeSpec := { name := "munchWhole", fn := fun _ => fun
  | [d1, d2, d3] => { results := [.lit (.bool false)], args := [d1, d2, d3] }
  | _ => none }
def MunchWholeWrongFalsely : Prop := munchWholeRow.holds Tryz.pinned (OpenSpec.ofChange munchWholeWrong)

/-- 'dofferlaw27.MunchJoin': WHATEVER THE INPUT: true; the input reads as it did. -/
def munchJoinSpec : ChangeSpec := { name := "munchJoin", fn := fun _ => fun
  | [d1, d2, d3] => { results := [.lit (.bool true)], args := [d1, d2, d3] }
  | _ => none }
def munchJoinRow : OpenClaim := { program := "ytnkednnnkifenaagreatdoor", sum := "b4461666c104633292dbc82ae2ecfa20d8cf86514e0ea96df24930d7449f92c7", func := "doffer/dofferlaw27.MunchJoin", spec := "munchJoin", inPlace := ["internal/bytealg.IndexByteString", "internal/bytealg.IndexString", "internal/bytealg.CountString"], unfollowed := true, recurses := true, named := ["doffer/api.ErrLong", "unicode/utf8.first", "unicode/utf8.acceptRanges", "internal/bytealg.MaxLen", "doffer/api.ErrForm", "doffer/api.ErrName", "doffer/api.ErrShort", "doffer/api.ErrDup", "doffer/api.ErrFull", "doffer/api.ErrDepth", "doffer/api.ErrLimit", "doffer/api.ErrRange", "doffer/api.ErrNone", "doffer/api.ErrLoop", "math/bits.deBruijn64tab"], apart := false, laid := [("math/bits.deBruijn64tab", laid_math_bits_deBruijn64tab), ("unicode/utf8.acceptRanges", laid_unicode_utf8_acceptRanges), ("doffer/api.ErrRange", laid_doffer_api_ErrRange), ("doffer/api.ErrShort", laid_doffer_api_ErrShort), ("doffer/api.ErrLong", laid_doffer_api_ErrLong), ("doffer/api.ErrForm", laid_doffer_api_ErrForm), ("doffer/api.ErrName", laid_doffer_api_ErrName), ("doffer/api.ErrDup", laid_doffer_api_ErrDup), ("doffer/api.ErrDepth", laid_doffer_api_ErrDepth), ("doffer/api.ErrLoop", laid_doffer_api_ErrLoop), ("doffer/api.ErrLimit", laid_doffer_api_ErrLimit), ("doffer/api.ErrFull", laid_doffer_api_ErrFull), ("doffer/api.ErrNone", laid_doffer_api_ErrNone), ("unicode/utf8.first", laid_unicode_utf8_first)] }
def MunchJoinSaid : Prop := munchJoinRow.holds Tryz.pinned (OpenSpec.ofChange munchJoinSpec)

/-- ITS FALSE NEIGHBOUR: 'it returns false'. Refute it at one input. -/
def munchJoinWrong : ChangeSpec := { name := "munchJoin", fn := fun _ => fun
  | [d1, d2, d3] => { results := [.lit (.bool false)], args := [d1, d2, d3] }
  | _ => none }
def MunchJoinWrongFalsely : Prop := munchJoinRow.holds Tryz.pinned (OpenSpec.ofChange munchJoinWrong)

/- THE SECOND FORM. 'bulk': how many values and letters a reading holds, each counted each time it is reached (what is shared counts as often as it is met; a slice's spare places count too). A statement '..UptoSaid' is the law's where the arguments, and the package variables that the reading takes, are together of bulk at most 1048576: NARROWER than '..Said'. Prove '..Said' where nothing that the law and all that it calls make is longer than what came in: it says more and counts as full. Else prove '..UptoSaid'. A law counts once. -/
mutual
def uptoBulk {H : Type} : DataW H → Nat
  | .lit (.string bytes) => bytes.length + 1
  | .lit _ => 1
  | .nil => 1
  | .ptr d => uptoBulk d + 1
  | .slice elems spare => uptoBulkAll elems + uptoBulkAll spare + 1
  | .agg parts => uptoBulkAll parts + 1
  | .iface _ d => uptoBulk d + 1
  | .map entries => uptoBulkEntries entries + 1
  | .held _ => 1
def uptoBulkAll {H : Type} : List (DataW H) → Nat
  | [] => 0
  | d :: r => uptoBulk d + uptoBulkAll r
def uptoBulkEntries {H : Type} : List (Lit × DataW H) → Nat
  | [] => 0
  | x :: r => uptoBulkEntry x + uptoBulkEntries r
def uptoBulkEntry {H : Type} : Lit × DataW H → Nat
  | (.string bytes, d) => bytes.length + uptoBulk d + 1
  | (_, d) => uptoBulk d + 1
 end
def uptoSmall : (H : Type) → List (DataW H) → Bool := fun _ ds => decide (uptoBulkAll ds ≤ 1048576)
def OpenSpec.upto (s : _root_.Go.ChangeSpec) : _root_.Go.OpenSpec := { _root_.Go.OpenSpec.ofChange s with cond := some uptoSmall }

/-- 'dofferlaw15.NfaFiles', WHERE WHAT IT READS IS OF BULK AT MOST 1048576: true; the input reads as it did. -/
def nfaFilesUptoRow : OpenClaim := { program := "ytnkednnnkifenaagreatdoor", sum := "b4461666c104633292dbc82ae2ecfa20d8cf86514e0ea96df24930d7449f92c7", func := "doffer/dofferlaw15.NfaFiles", spec := "nfaFiles", inPlace := ["internal/bytealg.IndexByteString", "internal/bytealg.IndexString", "internal/bytealg.CountString", "internal/reflectlite.TypeOf"], unfollowed := true, recurses := true, named := ["doffer/api.ErrLong", "unicode/utf8.first", "unicode/utf8.acceptRanges", "internal/bytealg.MaxLen", "doffer/api.ErrForm", "doffer/api.ErrName", "doffer/api.ErrShort", "doffer/api.ErrDup", "doffer/api.ErrFull", "doffer/api.ErrDepth", "doffer/api.ErrLimit", "doffer/api.ErrRange", "doffer/api.ErrNone", "doffer/api.ErrLoop", "doffer/api.ErrSum", "doffer/api.ErrVersion", "doffer/api.ErrIndex", "doffer/api.ErrCredit", "doffer/api.ErrState", "doffer/api.ErrParked", "doffer/api.ErrTag"], apart := false, laid := [("unicode/utf8.acceptRanges", laid_unicode_utf8_acceptRanges), ("doffer/api.ErrRange", laid_doffer_api_ErrRange), ("doffer/api.ErrShort", laid_doffer_api_ErrShort), ("doffer/api.ErrLong", laid_doffer_api_ErrLong), ("doffer/api.ErrForm", laid_doffer_api_ErrForm), ("doffer/api.ErrName", laid_doffer_api_ErrName), ("doffer/api.ErrDup", laid_doffer_api_ErrDup), ("doffer/api.ErrDepth", laid_doffer_api_ErrDepth), ("doffer/api.ErrLoop", laid_doffer_api_ErrLoop), ("doffer/api.ErrLimit", laid_doffer_api_ErrLimit), ("doffer/api.ErrSum", laid_doffer_api_ErrSum), ("doffer/api.ErrVersion", laid_doffer_api_ErrVersion), ("doffer/api.ErrIndex", laid_doffer_api_ErrIndex), ("doffer/api.ErrFull", laid_doffer_api_ErrFull), ("doffer/api.ErrCredit", laid_doffer_api_ErrCredit), ("doffer/api.ErrNone", laid_doffer_api_ErrNone), ("doffer/api.ErrState", laid_doffer_api_ErrState), ("doffer/api.ErrParked", laid_doffer_api_ErrParked), ("doffer/api.ErrTag", laid_doffer_api_ErrTag), ("unicode/utf8.first", laid_unicode_utf8_first)], narrowed := true }
def NfaFilesUptoSaid : Prop := nfaFilesUptoRow.holds Tryz.pinned (OpenSpec.upto nfaFilesSpec)

/-- 'dofferlaw14.RulesRead', WHERE WHAT IT READS IS OF BULK AT MOST 1048576: true; the input reads as it did. -/
def rulesReadUptoRow : OpenClaim := { program := "ytnkednnnkifenaagreatdoor", sum := "b4461666c104633292dbc82ae2ecfa20d8cf86514e0ea96df24930d7449f92c7", func := "doffer/dofferlaw14.RulesRead", spec := "rulesRead", inPlace := ["internal/bytealg.IndexByteString", "internal/bytealg.IndexString", "internal/bytealg.CountString", "internal/reflectlite.TypeOf"], unfollowed := true, recurses := true, named := ["doffer/api.ErrLong", "unicode/utf8.first", "unicode/utf8.acceptRanges", "internal/bytealg.MaxLen", "doffer/api.ErrForm", "doffer/api.ErrName", "doffer/api.ErrShort", "doffer/api.ErrDup", "doffer/api.ErrFull", "doffer/api.ErrDepth", "doffer/api.ErrLimit", "doffer/api.ErrRange", "doffer/api.ErrNone", "doffer/api.ErrLoop", "math/bits.deBruijn64tab", "doffer/api.ErrSum", "doffer/api.ErrVersion", "doffer/api.ErrIndex", "doffer/api.ErrCredit", "doffer/api.ErrState", "doffer/api.ErrParked", "doffer/api.ErrTag"], apart := false, laid := [("math/bits.deBruijn64tab", laid_math_bits_deBruijn64tab), ("unicode/utf8.acceptRanges", laid_unicode_utf8_acceptRanges), ("doffer/api.ErrRange", laid_doffer_api_ErrRange), ("doffer/api.ErrShort", laid_doffer_api_ErrShort), ("doffer/api.ErrLong", laid_doffer_api_ErrLong), ("doffer/api.ErrForm", laid_doffer_api_ErrForm), ("doffer/api.ErrName", laid_doffer_api_ErrName), ("doffer/api.ErrDup", laid_doffer_api_ErrDup), ("doffer/api.ErrDepth", laid_doffer_api_ErrDepth), ("doffer/api.ErrLoop", laid_doffer_api_ErrLoop), ("doffer/api.ErrLimit", laid_doffer_api_ErrLimit), ("doffer/api.ErrSum", laid_doffer_api_ErrSum), ("doffer/api.ErrVersion", laid_doffer_api_ErrVersion), ("doffer/api.ErrIndex", laid_doffer_api_ErrIndex), ("doffer/api.ErrFull", laid_doffer_api_ErrFull), ("doffer/api.ErrCredit", laid_doffer_api_ErrCredit), ("doffer/api.ErrNone", laid_doffer_api_ErrNone), ("doffer/api.ErrState", laid_doffer_api_ErrState), ("doffer/api.ErrParked", laid_doffer_api_ErrParked), ("doffer/api.ErrTag", laid_doffer_api_ErrTag), ("unicode/utf8.first", laid_unicode_utf8_first)], narrowed := true }
def RulesReadUptoSaid : Prop := rulesReadUptoRow.holds Tryz.pinned (OpenSpec.upto rulesReadSpec)

/-- 'dofferlaw27.MunchWhole', WHERE WHAT IT READS IS OF BULK AT MOST 1048576: true; the input reads as it did. -/
def munchWholeUptoRow : OpenClaim := { program := "ytnkednnnkifenaagreatdoor", sum := "b4461666c104633292dbc82ae2ecfa20d8cf86514e0ea96df24930d7449f92c7", func := "doffer/dofferlaw27.MunchWhole", spec := "munchWhole", inPlace := ["internal/bytealg.IndexByteString", "internal/bytealg.IndexString", "internal/bytealg.CountString"], unfollowed := true, recurses := true, named := ["doffer/api.ErrLong", "unicode/utf8.first", "unicode/utf8.acceptRanges", "internal/bytealg.MaxLen", "doffer/api.ErrForm", "doffer/api.ErrName", "doffer/api.ErrShort", "doffer/api.ErrDup", "doffer/api.ErrFull", "doffer/api.ErrDepth", "doffer/api.ErrLimit", "doffer/api.ErrRange", "doffer/api.ErrNone", "doffer/api.ErrLoop", "math/bits.deBruijn64tab"], apart := false, laid := [("math/bits.deBruijn64tab", laid_math_bits_deBruijn64tab), ("unicode/utf8.acceptRanges", laid_unicode_utf8_acceptRanges), ("doffer/api.ErrRange", laid_doffer_api_ErrRange), ("doffer/api.ErrShort", laid_doffer_api_ErrShort), ("doffer/api.ErrLong", laid_doffer_api_ErrLong), ("doffer/api.ErrForm", laid_doffer_api_ErrForm), ("doffer/api.ErrName", laid_doffer_api_ErrName), ("doffer/api.ErrDup", laid_doffer_api_ErrDup), ("doffer/api.ErrDepth", laid_doffer_api_ErrDepth), ("doffer/api.ErrLoop", laid_doffer_api_ErrLoop), ("doffer/api.ErrLimit", laid_doffer_api_ErrLimit), ("doffer/api.ErrFull", laid_doffer_api_ErrFull), ("doffer/api.ErrNone", laid_doffer_api_ErrNone), ("unicode/utf8.first", laid_unicode_utf8_first)], narrowed := true }
def MunchWholeUptoSaid : Prop := munchWholeUptoRow.holds Tryz.pinned (OpenSpec.upto munchWholeSpec)

/-- 'dofferlaw27.MunchJoin', WHERE WHAT IT READS IS OF BULK AT MOST 1048576: true; the input reads as it did. -/
def munchJoinUptoRow : OpenClaim := { program := "ytnkednnnkifenaagreatdoor", sum := "b4461666c104633292dbc82ae2ecfa20d8cf86514e0ea96df24930d7449f92c7", func := "doffer/dofferlaw27.MunchJoin", spec := "munchJoin", inPlace := ["internal/bytealg.IndexByteString", "internal/bytealg.IndexString", "internal/bytealg.CountString"], unfollowed := true, recurses := true, named := ["doffer/api.ErrLong", "unicode/utf8.first", "unicode/utf8.acceptRanges", "internal/bytealg.MaxLen", "doffer/api.ErrForm", "doffer/api.ErrName", "doffer/api.ErrShort", "doffer/api.ErrDup", "doffer/api.ErrFull", "doffer/api.ErrDepth", "doffer/api.ErrLimit", "doffer/api.ErrRange", "doffer/api.ErrNone", "doffer/api.ErrLoop", "math/bits.deBruijn64tab"], apart := false, laid := [("math/bits.deBruijn64tab", laid_math_bits_deBruijn64tab), ("unicode/utf8.acceptRanges", laid_unicode_utf8_acceptRanges), ("doffer/api.ErrRange", laid_doffer_api_ErrRange), ("doffer/api.ErrShort", laid_doffer_api_ErrShort), ("doffer/api.ErrLong", laid_doffer_api_ErrLong), ("doffer/api.ErrForm", laid_doffer_api_ErrForm), ("doffer/api.ErrName", laid_doffer_api_ErrName), ("doffer/api.ErrDup", laid_doffer_api_ErrDup), ("doffer/api.ErrDepth", laid_doffer_api_ErrDepth), ("doffer/api.ErrLoop", laid_doffer_api_ErrLoop), ("doffer/api.ErrLimit", laid_doffer_api_ErrLimit), ("doffer/api.ErrFull", laid_doffer_api_ErrFull), ("doffer/api.ErrNone", laid_doffer_api_ErrNone), ("unicode/utf8.first", laid_unicode_utf8_first)], narrowed := true }
def MunchJoinUptoSaid : Prop := munchJoinUptoRow.holds Tryz.pinned (OpenSpec.upto munchJoinSpec)

end Rows
end Go.Proofs.YtnkednnnkifenaaGreatDoor
