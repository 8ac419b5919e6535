/-
  THE CLAIM: the law, whatever the input, answers true and leaves its arguments as they were. Conditions: the listed variables' tie (given).
-/
import Derived.Test.YtealkahefalaeaaGreatDoorProductBothE3
import Derived.Test.YtealkahefalaeaaGreatDoorProductBothb
import Derived.Test.YtealkahefalaeaaGreatDoorProductBothP1
import Derived.Test.YtealkahefalaeaaGreatDoorCards
import Derived.Test.YtealkahefalaeaaGreatDoorTie
import Derived.Deep.DeepHandedRow
import Derived.Deep.DeepWitnessRowRef
import Derived.LaidMore
import Derived.Lay
import Derived.ProofKit
namespace Go.Proofs.YtealkahefalaeaaGreatDoor
namespace ProductBoth
open Go Go.Eng Go.ChangeShapes Go.WideShapes Go.ChangeAt Go.RowKit

set_option maxRecDepth 100000
theorem own : ownKnob Tryz.prog.godebug = none := by kernel_rfl
theorem laidOut : laidOutB Tryz.prog = true := by kernel_rfl
theorem met (os : Os) (args : Array Value) : laidMetH Tryz.prog Rows.productBothRow.laid ((World.laidAll Tryz.prog os Rows.productBothRow.laid).forCall (fun _ _ => 0) ⟨#[], args, []⟩).memory := by
  rw [MakeChecks.laidMetH_plain _ _ _ (by kernel_rfl)]
  exact laidMet_laidAll _ (by kernel_rfl) (by kernel_rfl)
theorem star : "*" ++ "errors.errorString" = "*errors.errorString" := by decide
theorem row394 (u : TypeId) (h : Tryz.prog.typeName? 3 u = some "*errors.errorString") : u = 394 :=
  typeName_ptr_named (nm := "errors.errorString") (by rw [star]; kernel_rfl) (by kernel_rfl) (by decide) u (by rw [star]; exact h)
theorem errs {W : World} (h : laidMetH Tryz.prog Rows.productBothRow.laid W) : ∃ ge, GErrs (hv W) 394 errIds ge := by
  rw [MakeChecks.laidMetH_plain _ _ _ (by kernel_rfl)] at h
  refine gErrs_of (nm := "*errors.errorString") (ti := 53) (te := 417) (ts := 9) ⟨Tryz.underlying53, row394, Tryz.underlying394, Tryz.underlying417, rfl, rfl, Tryz.underlying9, by kernel_rfl, by kernel_rfl⟩ h fun k hk => ?_
  have hk : k = 0 ∨ k = 1 ∨ k = 2 ∨ k = 3 ∨ k = 4 ∨ k = 5 ∨ k = 6 ∨ k = 7 ∨ k = 8 ∨ k = 9 ∨ k = 10 ∨ k = 11 ∨ k = 12 ∨ k = 13 ∨ k = 14 ∨ k = 15 ∨ k = 16 ∨ k = 17 := by simpa [errIds] using hk
  rcases hk with rfl | rfl | rfl | rfl | rfl | rfl | rfl | rfl | rfl | rfl | rfl | rfl | rfl | rfl | rfl | rfl | rfl | rfl
  · exact ⟨"doffer/api.ErrRange", _, List.mem_cons_of_mem _ (List.mem_cons_of_mem _ (List.mem_cons_self ..)), by kernel_rfl, by kernel_rfl⟩
  · exact ⟨"doffer/api.ErrForm", _, List.mem_cons_of_mem _ (List.mem_cons_of_mem _ (List.mem_cons_of_mem _ (List.mem_cons_of_mem _ (List.mem_cons_of_mem _ (List.mem_cons_self ..))))), by kernel_rfl, by kernel_rfl⟩
  · exact ⟨"doffer/api.ErrShort", _, List.mem_cons_of_mem _ (List.mem_cons_of_mem _ (List.mem_cons_of_mem _ (List.mem_cons_self ..))), by kernel_rfl, by kernel_rfl⟩
  · exact ⟨"doffer/api.ErrLong", _, List.mem_cons_of_mem _ (List.mem_cons_of_mem _ (List.mem_cons_of_mem _ (List.mem_cons_of_mem _ (List.mem_cons_self ..)))), by kernel_rfl, by kernel_rfl⟩
  · exact ⟨"doffer/api.ErrName", _, List.mem_cons_of_mem _ (List.mem_cons_of_mem _ (List.mem_cons_of_mem _ (List.mem_cons_of_mem _ (List.mem_cons_of_mem _ (List.mem_cons_of_mem _ (List.mem_cons_self ..)))))), by kernel_rfl, by kernel_rfl⟩
  · exact ⟨"doffer/api.ErrDup", _, List.mem_cons_of_mem _ (List.mem_cons_of_mem _ (List.mem_cons_of_mem _ (List.mem_cons_of_mem _ (List.mem_cons_of_mem _ (List.mem_cons_of_mem _ (List.mem_cons_of_mem _ (List.mem_cons_self ..))))))), by kernel_rfl, by kernel_rfl⟩
  · exact ⟨"doffer/api.ErrDepth", _, List.mem_cons_of_mem _ (List.mem_cons_of_mem _ (List.mem_cons_of_mem _ (List.mem_cons_of_mem _ (List.mem_cons_of_mem _ (List.mem_cons_of_mem _ (List.mem_cons_of_mem _ (List.mem_cons_of_mem _ (List.mem_cons_self ..)))))))), by kernel_rfl, by kernel_rfl⟩
  · exact ⟨"doffer/api.ErrLoop", _, List.mem_cons_of_mem _ (List.mem_cons_of_mem _ (List.mem_cons_of_mem _ (List.mem_cons_of_mem _ (List.mem_cons_of_mem _ (List.mem_cons_of_mem _ (List.mem_cons_of_mem _ (List.mem_cons_of_mem _ (List.mem_cons_of_mem _ (List.mem_cons_self ..))))))))), by kernel_rfl, by kernel_rfl⟩
  · exact ⟨"doffer/api.ErrLimit", _, List.mem_cons_of_mem _ (List.mem_cons_of_mem _ (List.mem_cons_of_mem _ (List.mem_cons_of_mem _ (List.mem_cons_of_mem _ (List.mem_cons_of_mem _ (List.mem_cons_of_mem _ (List.mem_cons_of_mem _ (List.mem_cons_of_mem _ (List.mem_cons_of_mem _ (List.mem_cons_self ..)))))))))), by kernel_rfl, by kernel_rfl⟩
  · exact ⟨"doffer/api.ErrSum", _, List.mem_cons_of_mem _ (List.mem_cons_of_mem _ (List.mem_cons_of_mem _ (List.mem_cons_of_mem _ (List.mem_cons_of_mem _ (List.mem_cons_of_mem _ (List.mem_cons_of_mem _ (List.mem_cons_of_mem _ (List.mem_cons_of_mem _ (List.mem_cons_of_mem _ (List.mem_cons_of_mem _ (List.mem_cons_self ..))))))))))), by kernel_rfl, by kernel_rfl⟩
  · exact ⟨"doffer/api.ErrVersion", _, List.mem_cons_of_mem _ (List.mem_cons_of_mem _ (List.mem_cons_of_mem _ (List.mem_cons_of_mem _ (List.mem_cons_of_mem _ (List.mem_cons_of_mem _ (List.mem_cons_of_mem _ (List.mem_cons_of_mem _ (List.mem_cons_of_mem _ (List.mem_cons_of_mem _ (List.mem_cons_of_mem _ (List.mem_cons_of_mem _ (List.mem_cons_self ..)))))))))))), by kernel_rfl, by kernel_rfl⟩
  · exact ⟨"doffer/api.ErrIndex", _, List.mem_cons_of_mem _ (List.mem_cons_of_mem _ (List.mem_cons_of_mem _ (List.mem_cons_of_mem _ (List.mem_cons_of_mem _ (List.mem_cons_of_mem _ (List.mem_cons_of_mem _ (List.mem_cons_of_mem _ (List.mem_cons_of_mem _ (List.mem_cons_of_mem _ (List.mem_cons_of_mem _ (List.mem_cons_of_mem _ (List.mem_cons_of_mem _ (List.mem_cons_self ..))))))))))))), by kernel_rfl, by kernel_rfl⟩
  · exact ⟨"doffer/api.ErrFull", _, List.mem_cons_of_mem _ (List.mem_cons_of_mem _ (List.mem_cons_of_mem _ (List.mem_cons_of_mem _ (List.mem_cons_of_mem _ (List.mem_cons_of_mem _ (List.mem_cons_of_mem _ (List.mem_cons_of_mem _ (List.mem_cons_of_mem _ (List.mem_cons_of_mem _ (List.mem_cons_of_mem _ (List.mem_cons_of_mem _ (List.mem_cons_of_mem _ (List.mem_cons_of_mem _ (List.mem_cons_self ..)))))))))))))), by kernel_rfl, by kernel_rfl⟩
  · exact ⟨"doffer/api.ErrCredit", _, List.mem_cons_of_mem _ (List.mem_cons_of_mem _ (List.mem_cons_of_mem _ (List.mem_cons_of_mem _ (List.mem_cons_of_mem _ (List.mem_cons_of_mem _ (List.mem_cons_of_mem _ (List.mem_cons_of_mem _ (List.mem_cons_of_mem _ (List.mem_cons_of_mem _ (List.mem_cons_of_mem _ (List.mem_cons_of_mem _ (List.mem_cons_of_mem _ (List.mem_cons_of_mem _ (List.mem_cons_of_mem _ (List.mem_cons_self ..))))))))))))))), by kernel_rfl, by kernel_rfl⟩
  · exact ⟨"doffer/api.ErrNone", _, List.mem_cons_of_mem _ (List.mem_cons_of_mem _ (List.mem_cons_of_mem _ (List.mem_cons_of_mem _ (List.mem_cons_of_mem _ (List.mem_cons_of_mem _ (List.mem_cons_of_mem _ (List.mem_cons_of_mem _ (List.mem_cons_of_mem _ (List.mem_cons_of_mem _ (List.mem_cons_of_mem _ (List.mem_cons_of_mem _ (List.mem_cons_of_mem _ (List.mem_cons_of_mem _ (List.mem_cons_of_mem _ (List.mem_cons_of_mem _ (List.mem_cons_self ..)))))))))))))))), by kernel_rfl, by kernel_rfl⟩
  · exact ⟨"doffer/api.ErrState", _, List.mem_cons_of_mem _ (List.mem_cons_of_mem _ (List.mem_cons_of_mem _ (List.mem_cons_of_mem _ (List.mem_cons_of_mem _ (List.mem_cons_of_mem _ (List.mem_cons_of_mem _ (List.mem_cons_of_mem _ (List.mem_cons_of_mem _ (List.mem_cons_of_mem _ (List.mem_cons_of_mem _ (List.mem_cons_of_mem _ (List.mem_cons_of_mem _ (List.mem_cons_of_mem _ (List.mem_cons_of_mem _ (List.mem_cons_of_mem _ (List.mem_cons_of_mem _ (List.mem_cons_self ..))))))))))))))))), by kernel_rfl, by kernel_rfl⟩
  · exact ⟨"doffer/api.ErrParked", _, List.mem_cons_of_mem _ (List.mem_cons_of_mem _ (List.mem_cons_of_mem _ (List.mem_cons_of_mem _ (List.mem_cons_of_mem _ (List.mem_cons_of_mem _ (List.mem_cons_of_mem _ (List.mem_cons_of_mem _ (List.mem_cons_of_mem _ (List.mem_cons_of_mem _ (List.mem_cons_of_mem _ (List.mem_cons_of_mem _ (List.mem_cons_of_mem _ (List.mem_cons_of_mem _ (List.mem_cons_of_mem _ (List.mem_cons_of_mem _ (List.mem_cons_of_mem _ (List.mem_cons_of_mem _ (List.mem_cons_self ..)))))))))))))))))), by kernel_rfl, by kernel_rfl⟩
  · exact ⟨"doffer/api.ErrTag", _, List.mem_cons_of_mem _ (List.mem_cons_of_mem _ (List.mem_cons_of_mem _ (List.mem_cons_of_mem _ (List.mem_cons_of_mem _ (List.mem_cons_of_mem _ (List.mem_cons_of_mem _ (List.mem_cons_of_mem _ (List.mem_cons_of_mem _ (List.mem_cons_of_mem _ (List.mem_cons_of_mem _ (List.mem_cons_of_mem _ (List.mem_cons_of_mem _ (List.mem_cons_of_mem _ (List.mem_cons_of_mem _ (List.mem_cons_of_mem _ (List.mem_cons_of_mem _ (List.mem_cons_of_mem _ (List.mem_cons_of_mem _ (List.mem_cons_self ..))))))))))))))))))), by kernel_rfl, by kernel_rfl⟩
theorem globTab18 : Tryz.prog.globalNamed "math/bits.deBruijn64tab" = some 18 := by kernel_rfl
theorem table18 {W : World} (h : laidMetH Tryz.prog Rows.productBothRow.laid W) : GTab (hv W) 18 .u8 tab_math_bits_deBruijn64tab := by
  rw [MakeChecks.laidMetH_plain _ _ _ (by kernel_rfl)] at h
  exact gTab_of (t := 260) (e := 5) (n := 64) (laid := Rows.productBothRow.laid) globTab18 (by kernel_rfl) Tryz.underlying260 Tryz.underlying5 (by kernel_rfl) (by kernel_rfl) (List.mem_cons_self ..) h
theorem r3 : Reads Tryz.prog 3 (eI .i64) (InK .i64) (fun _ => 1) := .int Tryz.underlying3 (by kernel_rfl)
theorem r88 : Reads Tryz.prog 88 (eA 256 (eI .i64)) (fun l => l.length = 256 ∧ ∀ x ∈ l, (InK .i64) x) (fun l => sumOf (fun _ => 1) l + 1) := .array r3 Tryz.underlying88 (by kernel_rfl)
theorem r76 : Reads Tryz.prog 76 (eL (eA 256 (eI .i64))) (fun l => l.length ≤ maxLen ∧ ∀ x ∈ l, (fun l => l.length = 256 ∧ ∀ x ∈ l, (InK .i64) x) x) (fun l => sumOf (fun l => sumOf (fun _ => 1) l + 1) l + 1) := .slice r88 Tryz.underlying76 (by kernel_rfl) (by decide)
theorem r23 : Reads Tryz.prog 23 (eL (eI .i64)) (fun l => l.length ≤ maxLen ∧ ∀ x ∈ l, (InK .i64) x) (fun l => sumOf (fun _ => 1) l + 1) := .slice r3 Tryz.underlying23 (by kernel_rfl) (by decide)
theorem r78 : Reads Tryz.prog 78 (eP (eL (eA 256 (eI .i64))) (eP (eL (eI .i64)) (eL (eI .i64)))) (fun x => (fun l => l.length ≤ maxLen ∧ ∀ x ∈ l, (fun l => l.length = 256 ∧ ∀ x ∈ l, (InK .i64) x) x) x.1 ∧ (fun x => (fun l => l.length ≤ maxLen ∧ ∀ x ∈ l, (InK .i64) x) x.1 ∧ (fun l => l.length ≤ maxLen ∧ ∀ x ∈ l, (InK .i64) x) x.2) x.2) (fun x => (fun x => (fun l => sumOf (fun l => sumOf (fun _ => 1) l + 1) l + 1) x.1 + (fun x => (fun l => sumOf (fun _ => 1) l + 1) x.1 + (fun l => sumOf (fun _ => 1) l + 1) x.2) x.2) x + 1) := by
  refine Reads.struct (e := (eP (eL (eA 256 (eI .i64))) (eP (eL (eI .i64)) (eL (eI .i64))))) (Q := (fun x => (fun l => l.length ≤ maxLen ∧ ∀ x ∈ l, (fun l => l.length = 256 ∧ ∀ x ∈ l, (InK .i64) x) x) x.1 ∧ (fun x => (fun l => l.length ≤ maxLen ∧ ∀ x ∈ l, (InK .i64) x) x.1 ∧ (fun l => l.length ≤ maxLen ∧ ∀ x ∈ l, (InK .i64) x) x.2) x.2)) (m := (fun x => (fun l => sumOf (fun l => sumOf (fun _ => 1) l + 1) l + 1) x.1 + (fun x => (fun l => sumOf (fun _ => 1) l + 1) x.1 + (fun l => sumOf (fun _ => 1) l + 1) x.2) x.2)) Tryz.underlying78 (by kernel_rfl) ?_
  refine ReadsFs.cons (e := (eL (eA 256 (eI .i64)))) (e2 := (eP (eL (eI .i64)) (eL (eI .i64)))) (Q := (fun l => l.length ≤ maxLen ∧ ∀ x ∈ l, (fun l => l.length = 256 ∧ ∀ x ∈ l, (InK .i64) x) x)) (Q2 := (fun x => (fun l => l.length ≤ maxLen ∧ ∀ x ∈ l, (InK .i64) x) x.1 ∧ (fun l => l.length ≤ maxLen ∧ ∀ x ∈ l, (InK .i64) x) x.2)) (m := (fun l => sumOf (fun l => sumOf (fun _ => 1) l + 1) l + 1)) (m2 := (fun x => (fun l => sumOf (fun _ => 1) l + 1) x.1 + (fun l => sumOf (fun _ => 1) l + 1) x.2)) r76 rfl ?_
  refine ReadsFs.cons (e := (eL (eI .i64))) (e2 := (eL (eI .i64))) (Q := (fun l => l.length ≤ maxLen ∧ ∀ x ∈ l, (InK .i64) x)) (Q2 := (fun l => l.length ≤ maxLen ∧ ∀ x ∈ l, (InK .i64) x)) (m := (fun l => sumOf (fun _ => 1) l + 1)) (m2 := (fun l => sumOf (fun _ => 1) l + 1)) r23 rfl ?_
  exact .one r23 rfl
/-- what is known of the arguments that came in -/
structure Came (l1 : List (List Int)) (l4 : List Int) (l7 : List Int) (l10 : List (List Int)) (l13 : List Int) (l16 : List Int) (n19 : Int) : Prop where
  hArg0 : (fun x => (fun l => l.length ≤ maxLen ∧ ∀ x ∈ l, (fun l => l.length = 256 ∧ ∀ x ∈ l, (InK .i64) x) x) x.1 ∧ (fun x => (fun l => l.length ≤ maxLen ∧ ∀ x ∈ l, (InK .i64) x) x.1 ∧ (fun l => l.length ≤ maxLen ∧ ∀ x ∈ l, (InK .i64) x) x.2) x.2) (l1, l4, l7)
  hArg1 : (fun x => (fun l => l.length ≤ maxLen ∧ ∀ x ∈ l, (fun l => l.length = 256 ∧ ∀ x ∈ l, (InK .i64) x) x) x.1 ∧ (fun x => (fun l => l.length ≤ maxLen ∧ ∀ x ∈ l, (InK .i64) x) x.1 ∧ (fun l => l.length ≤ maxLen ∧ ∀ x ∈ l, (InK .i64) x) x.2) x.2) (l10, l13, l16)
  hArg2 : (InK .i64) n19

theorem contract (pure : ∀ l1 l4 l7 l10 l13 l16 n19, Came l1 l4 l7 l10 l13 l16 n19 → ∃ N, F_dofferlaw21_ProductBoth N l1 l4 l7 l10 l13 l16 n19 = some true)
    (H : Type) (enc : TypeId × Value → H) (W : World) (base : Nat) (args : Array Value) (ds gs : List (DataW H)) (before : List MemPlace)
    (hval : ∀ (j : Nat) t v, Tryz.f14.params[j]? = some t → args[j]? = some v → Value.okWide Tryz.prog W .any base t v)
    (hW : DataW.Whole enc Tryz.prog Tryz.f14.params.toList Rows.productBothSpec.vars false W args.toList ds gs before) (hL : laidMetH Tryz.prog Rows.productBothRow.laid W) :
    Calls Tryz.prog 14 args W fun e W' => ∃ v, e = .returned v ∧ Rows.productBothSpec.post enc Tryz.prog Tryz.f14 false true false false W args v W' := by
  have hW' := hW
  obtain ⟨p, q, hA0, hV, rfl, hfz, hnd⟩ := hW
  have hA : DataW.TrodAll enc Tryz.prog W 0 (fun _ => true) true Tryz.f14.params.toList args.toList ds p := hA0
  rw [Tryz.params14] at hA hval
  obtain ⟨w0, vs0, d0, ds0, p0, q0, hv0, rfl, rfl, h0, r0⟩ := trodAll_cons hA
  obtain ⟨w1, vs1, d1, ds1, p1, q1, hv1, rfl, rfl, h1, r1⟩ := trodAll_cons r0
  subst hv1
  obtain ⟨w2, vs2, d2, ds2, p2, q2, hv2, rfl, rfl, h2, r2⟩ := trodAll_cons r1
  subst hv2
  obtain ⟨rfl, rfl, rfl⟩ := trodAll_nil r2
  obtain rfl : args = #[w0, w1, w2] := by cases args; simp_all
  obtain ⟨rfl, rfl⟩ := trodVars_none hV
  obtain ⟨cs0, rfl, sz0⟩ := okWide_struct Tryz.underlying78 (hval 0 78 w0 rfl rfl)
  obtain ⟨_, h0⟩ := h0
  obtain ⟨a0, k0, u0, _⟩ := r78.rd h0
  obtain ⟨cs0⟩ := cs0
  replace k0 : (eP (eL (eA 256 (eI .i64))) (eP (eL (eI .i64)) (eL (eI .i64)))).rd (hv W) a0 cs0 := k0
  obtain ⟨l1, l4, l7⟩ := a0
  obtain ⟨_, _, rfl, ⟨v2, rfl, g3⟩, ⟨_, _, rfl, ⟨v5, rfl, g6⟩, ⟨v8, rfl, g9⟩⟩⟩ := k0
  obtain ⟨cs1, rfl, sz1⟩ := okWide_struct Tryz.underlying78 (hval 1 78 w1 rfl rfl)
  obtain ⟨_, h1⟩ := h1
  obtain ⟨a1, k1, u1, _⟩ := r78.rd h1
  obtain ⟨cs1⟩ := cs1
  replace k1 : (eP (eL (eA 256 (eI .i64))) (eP (eL (eI .i64)) (eL (eI .i64)))).rd (hv W) a1 cs1 := k1
  obtain ⟨l10, l13, l16⟩ := a1
  obtain ⟨_, _, rfl, ⟨v11, rfl, g12⟩, ⟨_, _, rfl, ⟨v14, rfl, g15⟩, ⟨v17, rfl, g18⟩⟩⟩ := k1
  obtain ⟨z2, rfl⟩ := okWide_int Tryz.underlying3 (hval 2 3 w2 rfl rfl)
  obtain ⟨_, h2⟩ := h2
  obtain ⟨n19, e2, u2, _⟩ := r3.rd h2
  obtain rfl : z2 = n19 := by have := (List.cons.inj e2).1; injection this
  obtain ⟨N, hF⟩ := pure _ _ _ _ _ _ _ ⟨u0, u1, u2⟩
  obtain ⟨ge, gle⟩ := errs hL
  refine (c_14 (Hp.start W) gle (table18 hL) g3 g6 g9 g12 g15 g18 hF).mono fun e W' he => ?_
  obtain ⟨v, rfl, _, x, rfl, rfl, _, Hend⟩ := he
  exact ⟨_, rfl, post_law (tb := 4) laidOut (fun t ht => by
    rw [Tryz.params14] at ht
    have ht : t = 78 ∨ t = 3 := by simpa using ht
    rcases ht with rfl | rfl <;> exact ⟨by kernel_rfl, by decide +kernel⟩) rfl ⟨rfl, rfl, rfl⟩ rfl Tryz.underlying4 hW' Hend.below⟩

theorem reads (os : Os) {H : Type} (enc : TypeId × Value → H) : ∃ places, DataW.whole enc Tryz.prog ((World.laidAll Tryz.prog os Rows.productBothRow.laid).forCall (fun _ _ => 0) ⟨#[], #[.agg #[.slice none 0 0, .slice none 0 0, .slice none 0 0], .agg #[.slice none 0 0, .slice none 0 0, .slice none 0 0], .int .i64 0], []⟩).memory Tryz.f14.params.toList Rows.productBothSpec.vars false
    (#[.agg #[.slice none 0 0, .slice none 0 0, .slice none 0 0], .agg #[.slice none 0 0, .slice none 0 0, .slice none 0 0], .int .i64 0] : Array Value).toList 8 = some ([.agg [.nil, .nil, .nil], .agg [.nil, .nil, .nil], .lit (.int .i64 0)], [], places) :=
  ⟨[], by kernel_rfl⟩

set_option maxRecDepth 100000 in
theorem lifted (pure : ∀ l1 l4 l7 l10 l13 l16 n19, Came l1 l4 l7 l10 l13 l16 n19 → ∃ N, F_dofferlaw21_ProductBoth N l1 l4 l7 l10 l13 l16 n19 = some true) (os : Os) (started : os.Started) (H : Type) (enc : TypeId × Value → H) (F : Stop.Interp) :
    ReturnsInHanded {} Tryz.checked os 14 .any ((OpenSpec.ofChange Rows.productBothSpec).preRow enc Tryz.prog Tryz.f14 Rows.productBothRow.domain false Rows.productBothRow.laid) (((OpenSpec.ofChange Rows.productBothSpec).at F).post enc Tryz.prog Tryz.f14 false true false false) := by
  obtain ⟨places, hx⟩ := reads os enc
  refine returnsInHanded_of_row (C := Tryz.checked) (s := OpenSpec.ofChange Rows.productBothSpec) own started (by kernel_rfl) Tryz.func14
    (witness_row_atRef (enc := enc) (C := Tryz.checked) false (World.laidAll Tryz.prog os Rows.productBothRow.laid) #[.agg #[.slice none 0 0, .slice none 0 0, .slice none 0 0], .agg #[.slice none 0 0, .slice none 0 0, .slice none 0 0], .int .i64 0] (World.laidAll_os _ _ _) (by kernel_rfl) (by kernel_rfl) (by kernel_rfl)
      (OpenSpec.preRow_of_cond 8 hx (by kernel_rfl) (fun k hk => by cases hk) (by kernel_rfl) (met os _))) ?_
  intro W base args ds gs before hval hW _ _ _ hL _ _
  exact contract pure H enc W base args ds gs before hval hW hL

theorem cl1 : (Rows.productBothRow.inPlace == Tryz.pinned.checked.prog.inPlace 14) = true := by kernel_rfl
theorem cl2 : (Rows.productBothRow.unfollowed == Tryz.pinned.checked.prog.unfollowed 14) = true := by kernel_rfl
theorem cl3 : (Rows.productBothRow.recurses == Tryz.pinned.checked.prog.recurses 14) = true := by kernel_rfl
theorem cl4 : (Rows.productBothRow.named == Tryz.pinned.checked.prog.varsNamed 14) = true := by kernel_rfl
theorem cl5 : laidOutB Tryz.pinned.checked.prog = true := laidOut
theorem closed : joinedFacts Tryz.pinned.checked.prog 14 Tryz.f14 (OpenSpec.ofChange Rows.productBothSpec).bare Rows.productBothRow = true := by
  unfold joinedFacts
  rw [cl1, cl2, cl3, cl4, cl5]
  kernel_rfl

theorem said (pure : ∀ l1 l4 l7 l10 l13 l16 n19, Came l1 l4 l7 l10 l13 l16 n19 → ∃ N, F_dofferlaw21_ProductBoth N l1 l4 l7 l10 l13 l16 n19 = some true) : Rows.ProductBothSaid :=
  OpenClaim.holds_of_cond 14 Tryz.f14 rfl rfl rfl rfl rfl rfl rfl ⟨rfl, rfl, rfl, rfl, rfl⟩ rfl rfl rfl rfl rfl (by kernel_rfl) Tryz.func14 closed
    (of_decide_eq_true (by kernel_rfl)) (by unfold Func.isWrapper; first | (rw [if_pos (by decide +kernel)]; kernel_rfl) | (rw [if_neg (by decide +kernel)]; exact ⟨rfl, rfl⟩))
    (fun os started H enc _ F => by rw [OpenClaim.pre_eq_preRow]; exact lifted pure os started H enc F)

theorem plain (f : FuncId) (fn : Func) (hf : Tryz.pinned.checked.prog.funcNamed "doffer/dofferlaw21.ProductBoth" = some f) (hfn : Tryz.pinned.checked.prog.funcs[f]? = some fn) :
    true = Tryz.pinned.checked.prog.looks [] ∧ ∀ (j : Nat) t, fn.params[j]? = some t → Tryz.pinned.checked.prog.wantsStandIn t = false := by
  obtain rfl : f = 14 := Option.some.inj ((show Tryz.prog.funcNamed "doffer/dofferlaw21.ProductBoth" = some 14 by kernel_rfl).symm.trans hf) |>.symm
  obtain rfl : fn = Tryz.f14 := (Option.some.inj (Tryz.func14.symm.trans hfn)).symm
  refine ⟨by kernel_rfl, fun j t ht => ?_⟩
  rw [Tryz.params14] at ht
  have ht : t = 78 ∨ t = 3 := by simpa using Array.mem_of_getElem? ht
  rcases ht with rfl | rfl
  · exact (show Tryz.prog.wantsStandIn 78 = false by kernel_rfl)
  · exact (show Tryz.prog.wantsStandIn 3 = false by kernel_rfl)

theorem card (pure : ∀ l1 l4 l7 l10 l13 l16 n19, Came l1 l4 l7 l10 l13 l16 n19 → ∃ N, F_dofferlaw21_ProductBoth N l1 l4 l7 l10 l13 l16 n19 = some true) : Rows.ProductBothCardSaid :=
  Claim7.holds_tied_plain_at .later [] _ _ _ _ (said pure) (fun _ h => by cases h) (by kernel_rfl) (fun _ h => by cases h) productBoth_row_tie rfl ⟨rfl, rfl⟩ (by kernel_rfl) rfl plain (by kernel_rfl)
end ProductBoth
/-- THE CARD OF ProductBoth -/
theorem ProductBoth_proved : Rows.ProductBothCardSaid := ProductBoth.card fun _ _ _ _ _ _ _ h => productBoth_true (fun r hr => (h.hArg0.1.2 r hr).1) (fun r hr => (h.hArg1.1.2 r hr).1)
end Go.Proofs.YtealkahefalaeaaGreatDoor
