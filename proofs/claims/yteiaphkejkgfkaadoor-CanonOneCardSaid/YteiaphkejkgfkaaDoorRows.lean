/-
  NARROWER THAN 'FOR EVERY INPUT', by the rows' own cells (each row's printed sentence says how): CanonTells: laid · CanonFinds: laid · TrimTells: laid · TrimDead: laid · TrimShortest: laid · TrimFinds: laid · HopcroftParts: laid · HopcroftLeast: laid · HopcroftAgain: laid · CanonOne: laid · HopcroftFewest: laid.
  DERIVED. THE GIVEN ROWS OF THIS SEAT. 11 by the template 'for every input the law returns true; each argument reads behind the call as it read before'; 0 by the template 'total and deterministic' (their statements: YteiaphkejkgfkaaDoorTotals.lean).
  GIVEN WITH THE SEED: the statements are not yours to turn. If you find one false, say at which input.
  Laid BY PROGRAM, IN A SANDBOX (cutbox-rows.mjs): the forced cells as the released guide's own fill.sh prints them over the translation 668f23791a946c96… (all of the seat's roots in one cut). By AI agents, Wed Nov 11 2026. No macro, syntax, notation, axiom, sorry.
-/
import Derived.Test.YteiaphkejkgfkaaDoorChecked
import GoSem.Claim
import GoSem.ClaimJoined
import GoSem.ClaimMapViews
import Derived.JoinedTies
import Derived.KernelRfl
namespace Go.Proofs.YteiaphkejkgfkaaDoor
/- THE CELL 'sum', in the pinned program and in every row, IS THE sha256 OF THE DUMP (.gsa) THAT YteiaphkejkgfkaaDoorProg.lean LOADS. Nothing in Lean hashes anything: it is a label: what it is worth is what the hold of that sum in a sandbox is worth. -/
noncomputable def Tryd.pinned : Pinned := { name := "yteiaphkejkgfkaadoor", sum := "668f23791a946c96f3abd11d53b4fc59be8d38654e1c949ecfb8aa032c16fadc", checked := Tryd.checked }
namespace Rows
def none {H : Type} : Left H := { results := [], args := [] }

/- WHAT THE LISTED PACKAGE-LEVEL VARIABLES READ AS WHEN THE CALL BEGINS. Each datum BY PROGRAM (the guide's laid-datum.mjs) off the statement by which the dump's own 'gosem.cut.vars' lays the variable. In a bare row this is a premise. The card (YteiaphkejkgfkaaDoorCards.lean) ties it to the program's text. -/
def laid_doffer_api_ErrRange {H : Type} : DataW H := .iface "*errors.errorString" (.ptr (.agg [.lit (.string [97, 32, 110, 117, 109, 98, 101, 114, 32, 105, 115, 32, 111, 117, 116, 32, 111, 102, 32, 105, 116, 115, 32, 114, 97, 110, 103, 101])]))
def laid_math_bits_deBruijn64tab {H : Type} : DataW H := .agg [.lit (.int .u8 0), .lit (.int .u8 1), .lit (.int .u8 56), .lit (.int .u8 2), .lit (.int .u8 57), .lit (.int .u8 49), .lit (.int .u8 28), .lit (.int .u8 3), .lit (.int .u8 61), .lit (.int .u8 58), .lit (.int .u8 42), .lit (.int .u8 50), .lit (.int .u8 38), .lit (.int .u8 29), .lit (.int .u8 17), .lit (.int .u8 4), .lit (.int .u8 62), .lit (.int .u8 47), .lit (.int .u8 59), .lit (.int .u8 36), .lit (.int .u8 45), .lit (.int .u8 43), .lit (.int .u8 51), .lit (.int .u8 22), .lit (.int .u8 53), .lit (.int .u8 39), .lit (.int .u8 33), .lit (.int .u8 30), .lit (.int .u8 24), .lit (.int .u8 18), .lit (.int .u8 12), .lit (.int .u8 5), .lit (.int .u8 63), .lit (.int .u8 55), .lit (.int .u8 48), .lit (.int .u8 27), .lit (.int .u8 60), .lit (.int .u8 41), .lit (.int .u8 37), .lit (.int .u8 16), .lit (.int .u8 46), .lit (.int .u8 35), .lit (.int .u8 44), .lit (.int .u8 21), .lit (.int .u8 52), .lit (.int .u8 32), .lit (.int .u8 23), .lit (.int .u8 11), .lit (.int .u8 54), .lit (.int .u8 26), .lit (.int .u8 40), .lit (.int .u8 15), .lit (.int .u8 34), .lit (.int .u8 20), .lit (.int .u8 31), .lit (.int .u8 10), .lit (.int .u8 25), .lit (.int .u8 14), .lit (.int .u8 19), .lit (.int .u8 9), .lit (.int .u8 13), .lit (.int .u8 8), .lit (.int .u8 7), .lit (.int .u8 6)]

/-- 'dofferlaw20.CanonTells': WHATEVER THE INPUT: true; the input reads as it did. -/
def canonTellsSpec : ChangeSpec := { name := "canonTells", fn := fun _ => fun
  | [d] => { results := [.lit (.bool true)], args := [d] }
  | _ => none }
def canonTellsRow : OpenClaim := { program := "yteiaphkejkgfkaadoor", sum := "668f23791a946c96f3abd11d53b4fc59be8d38654e1c949ecfb8aa032c16fadc", func := "doffer/dofferlaw20.CanonTells", spec := "canonTells", unfollowed := true, recurses := true, named := ["doffer/api.ErrRange"], plainKeys := false, apart := false, laid := [("doffer/api.ErrRange", laid_doffer_api_ErrRange)] }
def CanonTellsSaid : Prop := canonTellsRow.holds Tryd.pinned (OpenSpec.ofChange canonTellsSpec)

/-- ITS FALSE NEIGHBOUR: 'it returns false'. Refute it at one input. -/
def canonTellsWrong : ChangeSpec := { name := "canonTells", fn := fun _ => fun
  | [d] => { results := [.lit (.bool false)], args := [d] }
  | _ => none }
def CanonTellsWrongFalsely : Prop := canonTellsRow.holds Tryd.pinned (OpenSpec.ofChange canonTellsWrong)

/-- 'dofferlaw20.CanonFinds': WHATEVER THE INPUT: true; the input reads as it did. -/
def canonFindsSpec : ChangeSpec := { name := "canonFinds", fn := fun _ => fun
  | [d1, d2, d3] => { results := [.lit (.bool true)], args := [d1, d2, d3] }
  | _ => none }
def canonFindsRow : OpenClaim := { program := "yteiaphkejkgfkaadoor", sum := "668f23791a946c96f3abd11d53b4fc59be8d38654e1c949ecfb8aa032c16fadc", func := "doffer/dofferlaw20.CanonFinds", spec := "canonFinds", unfollowed := true, recurses := true, named := ["doffer/api.ErrRange"], plainKeys := false, apart := false, laid := [("doffer/api.ErrRange", laid_doffer_api_ErrRange)] }
def CanonFindsSaid : Prop := canonFindsRow.holds Tryd.pinned (OpenSpec.ofChange canonFindsSpec)

/-- ITS FALSE NEIGHBOUR: 'it returns false'. Refute it at one input. -/
def canonFindsWrong : ChangeSpec := { name := "canonFinds", fn := fun _ => fun
  | [d1, d2, d3] => { results := [.lit (.bool false)], args := [d1, d2, d3] }
  | _ => none }
def CanonFindsWrongFalsely : Prop := canonFindsRow.holds Tryd.pinned (OpenSpec.ofChange canonFindsWrong)

/-- 'dofferlaw18.TrimTells': WHATEVER THE INPUT: true; the input reads as it did. -/
def trimTellsSpec : ChangeSpec := { name := "trimTells", fn := fun _ => fun
  | [d] => { results := [.lit (.bool true)], args := [d] }
  | _ => none }
def trimTellsRow : OpenClaim := { program := "yteiaphkejkgfkaadoor", sum := "668f23791a946c96f3abd11d53b4fc59be8d38654e1c949ecfb8aa032c16fadc", func := "doffer/dofferlaw18.TrimTells", spec := "trimTells", unfollowed := true, recurses := true, named := ["doffer/api.ErrRange", "math/bits.deBruijn64tab"], plainKeys := false, apart := false, laid := [("math/bits.deBruijn64tab", laid_math_bits_deBruijn64tab), ("doffer/api.ErrRange", laid_doffer_api_ErrRange)] }
def TrimTellsSaid : Prop := trimTellsRow.holds Tryd.pinned (OpenSpec.ofChange trimTellsSpec)

/-- ITS FALSE NEIGHBOUR: 'it returns false'. Refute it at one input. -/
def trimTellsWrong : ChangeSpec := { name := "trimTells", fn := fun _ => fun
  | [d] => { results := [.lit (.bool false)], args := [d] }
  | _ => none }
def TrimTellsWrongFalsely : Prop := trimTellsRow.holds Tryd.pinned (OpenSpec.ofChange trimTellsWrong)

/-- 'dofferlaw18.TrimDead': WHATEVER THE INPUT: true; the input reads as it did. -/
def trimDeadSpec : ChangeSpec := { name := "trimDead", fn := fun _ => fun
  | [d1, d2] => { results := [.lit (.bool true)], args := [d1, d2] }
  | _ => none }
def trimDeadRow : OpenClaim := { program := "yteiaphkejkgfkaadoor", sum := "668f23791a946c96f3abd11d53b4fc59be8d38654e1c949ecfb8aa032c16fadc", func := "doffer/dofferlaw18.TrimDead", spec := "trimDead", unfollowed := true, recurses := true, named := ["doffer/api.ErrRange", "math/bits.deBruijn64tab"], plainKeys := false, apart := false, laid := [("math/bits.deBruijn64tab", laid_math_bits_deBruijn64tab), ("doffer/api.ErrRange", laid_doffer_api_ErrRange)] }
def TrimDeadSaid : Prop := trimDeadRow.holds Tryd.pinned (OpenSpec.ofChange trimDeadSpec)

/-- ITS FALSE NEIGHBOUR: 'it returns false'. Refute it at one input. -/
def trimDeadWrong : ChangeSpec := { name := "trimDead", fn := fun _ => fun
  | [d1, d2] => { results := [.lit (.bool false)], args := [d1, d2] }
  | _ => none }
def TrimDeadWrongFalsely : Prop := trimDeadRow.holds Tryd.pinned (OpenSpec.ofChange trimDeadWrong)

/-- 'dofferlaw18.TrimShortest': WHATEVER THE INPUT: true; the input reads as it did. -/
def trimShortestSpec : ChangeSpec := { name := "trimShortest", fn := fun _ => fun
  | [d1, d2, d3] => { results := [.lit (.bool true)], args := [d1, d2, d3] }
  | _ => none }
def trimShortestRow : OpenClaim := { program := "yteiaphkejkgfkaadoor", sum := "668f23791a946c96f3abd11d53b4fc59be8d38654e1c949ecfb8aa032c16fadc", func := "doffer/dofferlaw18.TrimShortest", spec := "trimShortest", unfollowed := true, recurses := true, named := ["doffer/api.ErrRange", "math/bits.deBruijn64tab"], plainKeys := false, apart := false, laid := [("math/bits.deBruijn64tab", laid_math_bits_deBruijn64tab), ("doffer/api.ErrRange", laid_doffer_api_ErrRange)] }
def TrimShortestSaid : Prop := trimShortestRow.holds Tryd.pinned (OpenSpec.ofChange trimShortestSpec)

/-- ITS FALSE NEIGHBOUR: 'it returns false'. Refute it at one input. -/
def trimShortestWrong : ChangeSpec := { name := "trimShortest", fn := fun _ => fun
  | [d1, d2, d3] => { results := [.lit (.bool false)], args := [d1, d2, d3] }
  | _ => none }
def TrimShortestWrongFalsely : Prop := trimShortestRow.holds Tryd.pinned (OpenSpec.ofChange trimShortestWrong)

/-- 'dofferlaw18.TrimFinds': WHATEVER THE INPUT: true; the input reads as it did. -/
def trimFindsSpec : ChangeSpec := { name := "trimFinds", fn := fun _ => fun
  | [d1, d2, d3] => { results := [.lit (.bool true)], args := [d1, d2, d3] }
  | _ => none }
def trimFindsRow : OpenClaim := { program := "yteiaphkejkgfkaadoor", sum := "668f23791a946c96f3abd11d53b4fc59be8d38654e1c949ecfb8aa032c16fadc", func := "doffer/dofferlaw18.TrimFinds", spec := "trimFinds", unfollowed := true, recurses := true, named := ["doffer/api.ErrRange", "math/bits.deBruijn64tab"], plainKeys := false, apart := false, laid := [("math/bits.deBruijn64tab", laid_math_bits_deBruijn64tab), ("doffer/api.ErrRange", laid_doffer_api_ErrRange)] }
def TrimFindsSaid : Prop := trimFindsRow.holds Tryd.pinned (OpenSpec.ofChange trimFindsSpec)

/-- ITS FALSE NEIGHBOUR: 'it returns false'. Refute it at one input. -/
def trimFindsWrong : ChangeSpec := { name := "trimFinds", fn := fun _ => fun
  | [d1, d2, d3] => { results := [.lit (.bool false)], args := [d1, d2, d3] }
  | _ => none }
def TrimFindsWrongFalsely : Prop := trimFindsRow.holds Tryd.pinned (OpenSpec.ofChange trimFindsWrong)

/-- 'dofferlaw19.HopcroftParts': WHATEVER THE INPUT: true; the input reads as it did. -/
def hopcroftPartsSpec : ChangeSpec := { name := "hopcroftParts", fn := fun _ => fun
  | [d] => { results := [.lit (.bool true)], args := [d] }
  | _ => none }
def hopcroftPartsRow : OpenClaim := { program := "yteiaphkejkgfkaadoor", sum := "668f23791a946c96f3abd11d53b4fc59be8d38654e1c949ecfb8aa032c16fadc", func := "doffer/dofferlaw19.HopcroftParts", spec := "hopcroftParts", unfollowed := true, recurses := true, named := ["doffer/api.ErrRange", "math/bits.deBruijn64tab"], plainKeys := false, apart := false, laid := [("math/bits.deBruijn64tab", laid_math_bits_deBruijn64tab), ("doffer/api.ErrRange", laid_doffer_api_ErrRange)] }
def HopcroftPartsSaid : Prop := hopcroftPartsRow.holds Tryd.pinned (OpenSpec.ofChange hopcroftPartsSpec)

/-- ITS FALSE NEIGHBOUR: 'it returns false'. Refute it at one input. -/
def hopcroftPartsWrong : ChangeSpec := { name := "hopcroftParts", fn := fun _ => fun
  | [d] => { results := [.lit (.bool false)], args := [d] }
  | _ => none }
def HopcroftPartsWrongFalsely : Prop := hopcroftPartsRow.holds Tryd.pinned (OpenSpec.ofChange hopcroftPartsWrong)

/-- 'dofferlaw19.HopcroftLeast': WHATEVER THE INPUT: true; the input reads as it did. -/
def hopcroftLeastSpec : ChangeSpec := { name := "hopcroftLeast", fn := fun _ => fun
  | [d] => { results := [.lit (.bool true)], args := [d] }
  | _ => none }
def hopcroftLeastRow : OpenClaim := { program := "yteiaphkejkgfkaadoor", sum := "668f23791a946c96f3abd11d53b4fc59be8d38654e1c949ecfb8aa032c16fadc", func := "doffer/dofferlaw19.HopcroftLeast", spec := "hopcroftLeast", unfollowed := true, recurses := true, named := ["doffer/api.ErrRange", "math/bits.deBruijn64tab"], plainKeys := false, apart := false, laid := [("math/bits.deBruijn64tab", laid_math_bits_deBruijn64tab), ("doffer/api.ErrRange", laid_doffer_api_ErrRange)] }
def HopcroftLeastSaid : Prop := hopcroftLeastRow.holds Tryd.pinned (OpenSpec.ofChange hopcroftLeastSpec)

/-- ITS FALSE NEIGHBOUR: 'it returns false'. Refute it at one input. -/
def hopcroftLeastWrong : ChangeSpec := { name := "hopcroftLeast", fn := fun _ => fun
  | [d] => { results := [.lit (.bool false)], args := [d] }
  | _ => none }
def HopcroftLeastWrongFalsely : Prop := hopcroftLeastRow.holds Tryd.pinned (OpenSpec.ofChange hopcroftLeastWrong)

/-- 'dofferlaw19.HopcroftAgain': WHATEVER THE INPUT: true; the input reads as it did. -/
def hopcroftAgainSpec : ChangeSpec := { name := "hopcroftAgain", fn := fun _ => fun
  | [d] => { results := [.lit (.bool true)], args := [d] }
  | _ => none }
def hopcroftAgainRow : OpenClaim := { program := "yteiaphkejkgfkaadoor", sum := "668f23791a946c96f3abd11d53b4fc59be8d38654e1c949ecfb8aa032c16fadc", func := "doffer/dofferlaw19.HopcroftAgain", spec := "hopcroftAgain", unfollowed := true, recurses := true, named := ["doffer/api.ErrRange", "math/bits.deBruijn64tab"], plainKeys := false, apart := false, laid := [("math/bits.deBruijn64tab", laid_math_bits_deBruijn64tab), ("doffer/api.ErrRange", laid_doffer_api_ErrRange)] }
def HopcroftAgainSaid : Prop := hopcroftAgainRow.holds Tryd.pinned (OpenSpec.ofChange hopcroftAgainSpec)

/-- ITS FALSE NEIGHBOUR: 'it returns false'. Refute it at one input. -/
def hopcroftAgainWrong : ChangeSpec := { name := "hopcroftAgain", fn := fun _ => fun
  | [d] => { results := [.lit (.bool false)], args := [d] }
  | _ => none }
def HopcroftAgainWrongFalsely : Prop := hopcroftAgainRow.holds Tryd.pinned (OpenSpec.ofChange hopcroftAgainWrong)

/-- 'dofferlaw20.CanonOne': WHATEVER THE INPUT: true; the input reads as it did. -/
def canonOneSpec : ChangeSpec := { name := "canonOne", fn := fun _ => fun
  | [d1, d2] => { results := [.lit (.bool true)], args := [d1, d2] }
  | _ => none }
def canonOneRow : OpenClaim := { program := "yteiaphkejkgfkaadoor", sum := "668f23791a946c96f3abd11d53b4fc59be8d38654e1c949ecfb8aa032c16fadc", func := "doffer/dofferlaw20.CanonOne", spec := "canonOne", unfollowed := true, recurses := true, named := ["doffer/api.ErrRange", "math/bits.deBruijn64tab"], plainKeys := false, apart := false, laid := [("math/bits.deBruijn64tab", laid_math_bits_deBruijn64tab), ("doffer/api.ErrRange", laid_doffer_api_ErrRange)] }
def CanonOneSaid : Prop := canonOneRow.holds Tryd.pinned (OpenSpec.ofChange canonOneSpec)

/-- ITS FALSE NEIGHBOUR: 'it returns false'. Refute it at one input. -/
def canonOneWrong : ChangeSpec := { name := "canonOne", fn := fun _ => fun
  | [d1, d2] => { results := [.lit (.bool false)], args := [d1, d2] }
  | _ => none }
def CanonOneWrongFalsely : Prop := canonOneRow.holds Tryd.pinned (OpenSpec.ofChange canonOneWrong)

/-- 'dofferlaw19.HopcroftFewest': WHATEVER THE INPUT: true; the input reads as it did. -/
def hopcroftFewestSpec : ChangeSpec := { name := "hopcroftFewest", fn := fun _ => fun
  | [d1, d2, d3] => { results := [.lit (.bool true)], args := [d1, d2, d3] }
  | _ => none }
def hopcroftFewestRow : OpenClaim := { program := "yteiaphkejkgfkaadoor", sum := "668f23791a946c96f3abd11d53b4fc59be8d38654e1c949ecfb8aa032c16fadc", func := "doffer/dofferlaw19.HopcroftFewest", spec := "hopcroftFewest", unfollowed := true, recurses := true, named := ["doffer/api.ErrRange", "math/bits.deBruijn64tab"], plainKeys := false, apart := false, laid := [("math/bits.deBruijn64tab", laid_math_bits_deBruijn64tab), ("doffer/api.ErrRange", laid_doffer_api_ErrRange)] }
def HopcroftFewestSaid : Prop := hopcroftFewestRow.holds Tryd.pinned (OpenSpec.ofChange hopcroftFewestSpec)

/-- ITS FALSE NEIGHBOUR: 'it returns false'. Refute it at one input. -/
def hopcroftFewestWrong : ChangeSpec := { name := "hopcroftFewest", fn := fun _ => fun
  | [d1, d2, d3] => { results := [.lit (.bool false)], args := [d1, d2, d3] }
  | _ => none }
def HopcroftFewestWrongFalsely : Prop := hopcroftFewestRow.holds Tryd.pinned (OpenSpec.ofChange hopcroftFewestWrong)

/- THE SECOND FORM. 'bulk': how many values and letters a reading holds, each counted each time it is reached (what is shared counts as often as it is met; a slice's spare places count too). A statement '..UptoSaid' is the law's where the arguments, and the package variables that the reading takes, are together of bulk at most 1048576: NARROWER than '..Said'. Prove '..Said' where nothing that the law and all that it calls make is longer than what came in: it says more and counts as full. Else prove '..UptoSaid'. A law counts once. -/
mutual
def uptoBulk {H : Type} : DataW H → Nat
  | .lit (.string bytes) => bytes.length + 1
  | .lit _ => 1
  | .nil => 1
  | .ptr d => uptoBulk d + 1
  | .slice elems spare => uptoBulkAll elems + uptoBulkAll spare + 1
  | .agg parts => uptoBulkAll parts + 1
  | .iface _ d => uptoBulk d + 1
  | .map entries => uptoBulkEntries entries + 1
  | .held _ => 1
def uptoBulkAll {H : Type} : List (DataW H) → Nat
  | [] => 0
  | d :: r => uptoBulk d + uptoBulkAll r
def uptoBulkEntries {H : Type} : List (Lit × DataW H) → Nat
  | [] => 0
  | x :: r => uptoBulkEntry x + uptoBulkEntries r
def uptoBulkEntry {H : Type} : Lit × DataW H → Nat
  | (.string bytes, d) => bytes.length + uptoBulk d + 1
  | (_, d) => uptoBulk d + 1
 end
def uptoSmall : (H : Type) → List (DataW H) → Bool := fun _ ds => decide (uptoBulkAll ds ≤ 1048576)
def OpenSpec.upto (s : _root_.Go.ChangeSpec) : _root_.Go.OpenSpec := { _root_.Go.OpenSpec.ofChange s with cond := some uptoSmall }

/-- 'dofferlaw20.CanonTells', WHERE WHAT IT READS IS OF BULK AT MOST 1048576: true; the input reads as it did. -/
def canonTellsUptoRow : OpenClaim := { program := "yteiaphkejkgfkaadoor", sum := "668f23791a946c96f3abd11d53b4fc59be8d38654e1c949ecfb8aa032c16fadc", func := "doffer/dofferlaw20.CanonTells", spec := "canonTells", unfollowed := true, recurses := true, named := ["doffer/api.ErrRange"], plainKeys := false, apart := false, laid := [("doffer/api.ErrRange", laid_doffer_api_ErrRange)], narrowed := true }
def CanonTellsUptoSaid : Prop := canonTellsUptoRow.holds Tryd.pinned (OpenSpec.upto canonTellsSpec)

/-- 'dofferlaw20.CanonFinds', WHERE WHAT IT READS IS OF BULK AT MOST 1048576: true; the input reads as it did. -/
def canonFindsUptoRow : OpenClaim := { program := "yteiaphkejkgfkaadoor", sum := "668f23791a946c96f3abd11d53b4fc59be8d38654e1c949ecfb8aa032c16fadc", func := "doffer/dofferlaw20.CanonFinds", spec := "canonFinds", unfollowed := true, recurses := true, named := ["doffer/api.ErrRange"], plainKeys := false, apart := false, laid := [("doffer/api.ErrRange", laid_doffer_api_ErrRange)], narrowed := true }
def CanonFindsUptoSaid : Prop := canonFindsUptoRow.holds Tryd.pinned (OpenSpec.upto canonFindsSpec)

/-- 'dofferlaw18.TrimTells', WHERE WHAT IT READS IS OF BULK AT MOST 1048576: true; the input reads as it did. -/
def trimTellsUptoRow : OpenClaim := { program := "yteiaphkejkgfkaadoor", sum := "668f23791a946c96f3abd11d53b4fc59be8d38654e1c949ecfb8aa032c16fadc", func := "doffer/dofferlaw18.TrimTells", spec := "trimTells", unfollowed := true, recurses := true, named := ["doffer/api.ErrRange", "math/bits.deBruijn64tab"], plainKeys := false, apart := false, laid := [("math/bits.deBruijn64tab", laid_math_bits_deBruijn64tab), ("doffer/api.ErrRange", laid_doffer_api_ErrRange)], narrowed := true }
def TrimTellsUptoSaid : Prop := trimTellsUptoRow.holds Tryd.pinned (OpenSpec.upto trimTellsSpec)

/-- 'dofferlaw18.TrimDead', WHERE WHAT IT READS IS OF BULK AT MOST 1048576: true; the input reads as it did. -/
def trimDeadUptoRow : OpenClaim := { program := "yteiaphkejkgfkaadoor", sum := "668f23791a946c96f3abd11d53b4fc59be8d38654e1c949ecfb8aa032c16fadc", func := "doffer/dofferlaw18.TrimDead", spec := "trimDead", unfollowed := true, recurses := true, named := ["doffer/api.ErrRange", "math/bits.deBruijn64tab"], plainKeys := false, apart := false, laid := [("math/bits.deBruijn64tab", laid_math_bits_deBruijn64tab), ("doffer/api.ErrRange", laid_doffer_api_ErrRange)], narrowed := true }
def TrimDeadUptoSaid : Prop := trimDeadUptoRow.holds Tryd.pinned (OpenSpec.upto trimDeadSpec)

/-- 'dofferlaw18.TrimShortest', WHERE WHAT IT READS IS OF BULK AT MOST 1048576: true; the input reads as it did. -/
def trimShortestUptoRow : OpenClaim := { program := "yteiaphkejkgfkaadoor", sum := "668f23791a946c96f3abd11d53b4fc59be8d38654e1c949ecfb8aa032c16fadc", func := "doffer/dofferlaw18.TrimShortest", spec := "trimShortest", unfollowed := true, recurses := true, named := ["doffer/api.ErrRange", "math/bits.deBruijn64tab"], plainKeys := false, apart := false, laid := [("math/bits.deBruijn64tab", laid_math_bits_deBruijn64tab), ("doffer/api.ErrRange", laid_doffer_api_ErrRange)], narrowed := true }
def TrimShortestUptoSaid : Prop := trimShortestUptoRow.holds Tryd.pinned (OpenSpec.upto trimShortestSpec)

/-- 'dofferlaw18.TrimFinds', WHERE WHAT IT READS IS OF BULK AT MOST 1048576: true; the input reads as it did. -/
def trimFindsUptoRow : OpenClaim := { program := "yteiaphkejkgfkaadoor", sum := "668f23791a946c96f3abd11d53b4fc59be8d38654e1c949ecfb8aa032c16fadc", func := "doffer/dofferlaw18.TrimFinds", spec := "trimFinds", unfollowed := true, recurses := true, named := ["doffer/api.ErrRange", "math/bits.deBruijn64tab"], plainKeys := false, apart := false, laid := [("math/bits.deBruijn64tab", laid_math_bits_deBruijn64tab), ("doffer/api.ErrRange", laid_doffer_api_ErrRange)], narrowed := true }
def TrimFindsUptoSaid : Prop := trimFindsUptoRow.holds Tryd.pinned (OpenSpec.upto trimFindsSpec)

/-- 'dofferlaw19.HopcroftParts', WHERE WHAT IT READS IS OF BULK AT MOST 1048576: true; the input reads as it did. -/
def hopcroftPartsUptoRow : OpenClaim := { program := "yteiaphkejkgfkaadoor", sum := "668f23791a946c96f3abd11d53b4fc59be8d38654e1c949ecfb8aa032c16fadc", func := "doffer/dofferlaw19.HopcroftParts", spec := "hopcroftParts", unfollowed := true, recurses := true, named := ["doffer/api.ErrRange", "math/bits.deBruijn64tab"], plainKeys := false, apart := false, laid := [("math/bits.deBruijn64tab", laid_math_bits_deBruijn64tab), ("doffer/api.ErrRange", laid_doffer_api_ErrRange)], narrowed := true }
def HopcroftPartsUptoSaid : Prop := hopcroftPartsUptoRow.holds Tryd.pinned (OpenSpec.upto hopcroftPartsSpec)

/-- 'dofferlaw19.HopcroftLeast', WHERE WHAT IT READS IS OF BULK AT MOST 1048576: true; the input reads as it did. -/
def hopcroftLeastUptoRow : OpenClaim := { program := "yteiaphkejkgfkaadoor", sum := "668f23791a946c96f3abd11d53b4fc59be8d38654e1c949ecfb8aa032c16fadc", func := "doffer/dofferlaw19.HopcroftLeast", spec := "hopcroftLeast", unfollowed := true, recurses := true, named := ["doffer/api.ErrRange", "math/bits.deBruijn64tab"], plainKeys := false, apart := false, laid := [("math/bits.deBruijn64tab", laid_math_bits_deBruijn64tab), ("doffer/api.ErrRange", laid_doffer_api_ErrRange)], narrowed := true }
def HopcroftLeastUptoSaid : Prop := hopcroftLeastUptoRow.holds Tryd.pinned (OpenSpec.upto hopcroftLeastSpec)

/-- 'dofferlaw19.HopcroftAgain', WHERE WHAT IT READS IS OF BULK AT MOST 1048576: true; the input reads as it did. -/
def hopcroftAgainUptoRow : OpenClaim := { program := "yteiaphkejkgfkaadoor", sum := "668f23791a946c96f3abd11d53b4fc59be8d38654e1c949ecfb8aa032c16fadc", func := "doffer/dofferlaw19.HopcroftAgain", spec := "hopcroftAgain", unfollowed := true, recurses := true, named := ["doffer/api.ErrRange", "math/bits.deBruijn64tab"], plainKeys := false, apart := false, laid := [("math/bits.deBruijn64tab", laid_math_bits_deBruijn64tab), ("doffer/api.ErrRange", laid_doffer_api_ErrRange)], narrowed := true }
def HopcroftAgainUptoSaid : Prop := hopcroftAgainUptoRow.holds Tryd.pinned (OpenSpec.upto hopcroftAgainSpec)

/-- 'dofferlaw20.CanonOne', WHERE WHAT IT READS IS OF BULK AT MOST 1048576: true; the input reads as it did. -/
def canonOneUptoRow : OpenClaim := { program := "yteiaphkejkgfkaadoor", sum := "668f23791a946c96f3abd11d53b4fc59be8d38654e1c949ecfb8aa032c16fadc", func := "doffer/dofferlaw20.CanonOne", spec := "canonOne", unfollowed := true, recurses := true, named := ["doffer/api.ErrRange", "math/bits.deBruijn64tab"], plainKeys := false, apart := false, laid := [("math/bits.deBruijn64tab", laid_math_bits_deBruijn64tab), ("doffer/api.ErrRange", laid_doffer_api_ErrRange)], narrowed := true }
def CanonOneUptoSaid : Prop := canonOneUptoRow.holds Tryd.pinned (OpenSpec.upto canonOneSpec)

/-- 'dofferlaw19.HopcroftFewest', WHERE WHAT IT READS IS OF BULK AT MOST 1048576: true; the input reads as it did. -/
def hopcroftFewestUptoRow : OpenClaim := { program := "yteiaphkejkgfkaadoor", sum := "668f23791a946c96f3abd11d53b4fc59be8d38654e1c949ecfb8aa032c16fadc", func := "doffer/dofferlaw19.HopcroftFewest", spec := "hopcroftFewest", unfollowed := true, recurses := true, named := ["doffer/api.ErrRange", "math/bits.deBruijn64tab"], plainKeys := false, apart := false, laid := [("math/bits.deBruijn64tab", laid_math_bits_deBruijn64tab), ("doffer/api.ErrRange", laid_doffer_api_ErrRange)], narrowed := true }
def HopcroftFewestUptoSaid : Prop := hopcroftFewestUptoRow.holds Tryd.pinned (OpenSpec.upto hopcroftFewestSpec)

end Rows
end Go.Proofs.YteiaphkejkgfkaaDoor
