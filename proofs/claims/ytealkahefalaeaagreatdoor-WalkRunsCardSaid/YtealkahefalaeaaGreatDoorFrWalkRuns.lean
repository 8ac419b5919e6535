/-
  THE CLAIM: the law, whatever the input, answers true and leaves its arguments as they were. Conditions: the listed variables' tie (given).
-/
import Derived.Test.YtealkahefalaeaaGreatDoorWalkRunsE3
import Derived.Test.YtealkahefalaeaaGreatDoorWalkRunsb
import Derived.Test.YtealkahefalaeaaGreatDoorWalkRunsP1
import Derived.Test.YtealkahefalaeaaGreatDoorCards
import Derived.Test.YtealkahefalaeaaGreatDoorTie
import Derived.Deep.DeepHandedRow
import Derived.Deep.DeepWitnessRowRef
import Derived.LaidMore
import Derived.Lay
import Derived.ProofKit
namespace Go.Proofs.YtealkahefalaeaaGreatDoor
namespace WalkRuns
open Go Go.Eng Go.ChangeShapes Go.WideShapes Go.ChangeAt Go.RowKit

set_option maxRecDepth 100000
theorem own : ownKnob Tryz.prog.godebug = none := by kernel_rfl
theorem laidOut : laidOutB Tryz.prog = true := by kernel_rfl
theorem met (os : Os) (args : Array Value) : laidMetH Tryz.prog Rows.walkRunsRow.laid ((World.laidAll Tryz.prog os Rows.walkRunsRow.laid).forCall (fun _ _ => 0) ⟨#[], args, []⟩).memory := by
  rw [MakeChecks.laidMetH_plain _ _ _ (by kernel_rfl)]
  exact laidMet_laidAll _ (by kernel_rfl) (by kernel_rfl)
theorem star : "*" ++ "errors.errorString" = "*errors.errorString" := by decide
theorem row394 (u : TypeId) (h : Tryz.prog.typeName? 3 u = some "*errors.errorString") : u = 394 :=
  typeName_ptr_named (nm := "errors.errorString") (by rw [star]; kernel_rfl) (by kernel_rfl) (by decide) u (by rw [star]; exact h)
theorem errs {W : World} (h : laidMetH Tryz.prog Rows.walkRunsRow.laid W) : ∃ ge, GErrs (hv W) 394 errIds ge := by
  rw [MakeChecks.laidMetH_plain _ _ _ (by kernel_rfl)] at h
  refine gErrs_of (nm := "*errors.errorString") (ti := 53) (te := 417) (ts := 9) ⟨Tryz.underlying53, row394, Tryz.underlying394, Tryz.underlying417, rfl, rfl, Tryz.underlying9, by kernel_rfl, by kernel_rfl⟩ h fun k hk => ?_
  have hk : k = 0 ∨ k = 1 ∨ k = 2 ∨ k = 3 ∨ k = 4 ∨ k = 5 ∨ k = 6 ∨ k = 7 ∨ k = 8 ∨ k = 12 ∨ k = 14 := by simpa [errIds] using hk
  rcases hk with rfl | rfl | rfl | rfl | rfl | rfl | rfl | rfl | rfl | rfl | rfl
  · exact ⟨"doffer/api.ErrRange", _, List.mem_cons_of_mem _ (List.mem_cons_of_mem _ (List.mem_cons_self ..)), by kernel_rfl, by kernel_rfl⟩
  · exact ⟨"doffer/api.ErrForm", _, List.mem_cons_of_mem _ (List.mem_cons_of_mem _ (List.mem_cons_of_mem _ (List.mem_cons_of_mem _ (List.mem_cons_of_mem _ (List.mem_cons_self ..))))), by kernel_rfl, by kernel_rfl⟩
  · exact ⟨"doffer/api.ErrShort", _, List.mem_cons_of_mem _ (List.mem_cons_of_mem _ (List.mem_cons_of_mem _ (List.mem_cons_self ..))), by kernel_rfl, by kernel_rfl⟩
  · exact ⟨"doffer/api.ErrLong", _, List.mem_cons_of_mem _ (List.mem_cons_of_mem _ (List.mem_cons_of_mem _ (List.mem_cons_of_mem _ (List.mem_cons_self ..)))), by kernel_rfl, by kernel_rfl⟩
  · exact ⟨"doffer/api.ErrName", _, List.mem_cons_of_mem _ (List.mem_cons_of_mem _ (List.mem_cons_of_mem _ (List.mem_cons_of_mem _ (List.mem_cons_of_mem _ (List.mem_cons_of_mem _ (List.mem_cons_self ..)))))), by kernel_rfl, by kernel_rfl⟩
  · exact ⟨"doffer/api.ErrDup", _, List.mem_cons_of_mem _ (List.mem_cons_of_mem _ (List.mem_cons_of_mem _ (List.mem_cons_of_mem _ (List.mem_cons_of_mem _ (List.mem_cons_of_mem _ (List.mem_cons_of_mem _ (List.mem_cons_self ..))))))), by kernel_rfl, by kernel_rfl⟩
  · exact ⟨"doffer/api.ErrDepth", _, List.mem_cons_of_mem _ (List.mem_cons_of_mem _ (List.mem_cons_of_mem _ (List.mem_cons_of_mem _ (List.mem_cons_of_mem _ (List.mem_cons_of_mem _ (List.mem_cons_of_mem _ (List.mem_cons_of_mem _ (List.mem_cons_self ..)))))))), by kernel_rfl, by kernel_rfl⟩
  · exact ⟨"doffer/api.ErrLoop", _, List.mem_cons_of_mem _ (List.mem_cons_of_mem _ (List.mem_cons_of_mem _ (List.mem_cons_of_mem _ (List.mem_cons_of_mem _ (List.mem_cons_of_mem _ (List.mem_cons_of_mem _ (List.mem_cons_of_mem _ (List.mem_cons_of_mem _ (List.mem_cons_self ..))))))))), by kernel_rfl, by kernel_rfl⟩
  · exact ⟨"doffer/api.ErrLimit", _, List.mem_cons_of_mem _ (List.mem_cons_of_mem _ (List.mem_cons_of_mem _ (List.mem_cons_of_mem _ (List.mem_cons_of_mem _ (List.mem_cons_of_mem _ (List.mem_cons_of_mem _ (List.mem_cons_of_mem _ (List.mem_cons_of_mem _ (List.mem_cons_of_mem _ (List.mem_cons_self ..)))))))))), by kernel_rfl, by kernel_rfl⟩
  · exact ⟨"doffer/api.ErrFull", _, List.mem_cons_of_mem _ (List.mem_cons_of_mem _ (List.mem_cons_of_mem _ (List.mem_cons_of_mem _ (List.mem_cons_of_mem _ (List.mem_cons_of_mem _ (List.mem_cons_of_mem _ (List.mem_cons_of_mem _ (List.mem_cons_of_mem _ (List.mem_cons_of_mem _ (List.mem_cons_of_mem _ (List.mem_cons_self ..))))))))))), by kernel_rfl, by kernel_rfl⟩
  · exact ⟨"doffer/api.ErrNone", _, List.mem_cons_of_mem _ (List.mem_cons_of_mem _ (List.mem_cons_of_mem _ (List.mem_cons_of_mem _ (List.mem_cons_of_mem _ (List.mem_cons_of_mem _ (List.mem_cons_of_mem _ (List.mem_cons_of_mem _ (List.mem_cons_of_mem _ (List.mem_cons_of_mem _ (List.mem_cons_of_mem _ (List.mem_cons_of_mem _ (List.mem_cons_self ..)))))))))))), by kernel_rfl, by kernel_rfl⟩
theorem globTab18 : Tryz.prog.globalNamed "math/bits.deBruijn64tab" = some 18 := by kernel_rfl
theorem table18 {W : World} (h : laidMetH Tryz.prog Rows.walkRunsRow.laid W) : GTab (hv W) 18 .u8 tab_math_bits_deBruijn64tab := by
  rw [MakeChecks.laidMetH_plain _ _ _ (by kernel_rfl)] at h
  exact gTab_of (t := 260) (e := 5) (n := 64) (laid := Rows.walkRunsRow.laid) globTab18 (by kernel_rfl) Tryz.underlying260 Tryz.underlying5 (by kernel_rfl) (by kernel_rfl) (List.mem_cons_self ..) h
theorem r3 : Reads Tryz.prog 3 (eI .i64) (InK .i64) (fun _ => 1) := .int Tryz.underlying3 (by kernel_rfl)
theorem r23 : Reads Tryz.prog 23 (eL (eI .i64)) (fun l => l.length ≤ maxLen ∧ ∀ x ∈ l, (InK .i64) x) (fun l => sumOf (fun _ => 1) l + 1) := .slice r3 Tryz.underlying23 (by kernel_rfl) (by decide)
theorem r37 : Reads Tryz.prog 37 (eI .u64) (InK .u64) (fun _ => 1) := .int Tryz.underlying37 (by kernel_rfl)
theorem r39 : Reads Tryz.prog 39 (eP (eI .u64) (eP (eI .u64) (eP (eI .u64) (eI .u64)))) (fun x => (InK .u64) x.1 ∧ (InK .u64) x.2.1 ∧ (InK .u64) x.2.2.1 ∧ (InK .u64) x.2.2.2) (fun _ => 0) := .arr4 r37 Tryz.underlying39 (by kernel_rfl)
theorem r41 : Reads Tryz.prog 41 (eP (eL (eI .i64)) (eP (eP (eI .u64) (eP (eI .u64) (eP (eI .u64) (eI .u64)))) (eP (eI .i64) (eI .i64)))) (fun x => (fun l => l.length ≤ maxLen ∧ ∀ x ∈ l, (InK .i64) x) x.1 ∧ (fun x => (fun x => (InK .u64) x.1 ∧ (InK .u64) x.2.1 ∧ (InK .u64) x.2.2.1 ∧ (InK .u64) x.2.2.2) x.1 ∧ (fun x => (InK .i64) x.1 ∧ (InK .i64) x.2) x.2) x.2) (fun x => (fun x => (fun l => sumOf (fun _ => 1) l + 1) x.1 + (fun x => (fun _ => 0) x.1 + (fun x => (fun _ => 1) x.1 + (fun _ => 1) x.2) x.2) x.2) x + 1) := by
  refine Reads.struct (e := (eP (eL (eI .i64)) (eP (eP (eI .u64) (eP (eI .u64) (eP (eI .u64) (eI .u64)))) (eP (eI .i64) (eI .i64))))) (Q := (fun x => (fun l => l.length ≤ maxLen ∧ ∀ x ∈ l, (InK .i64) x) x.1 ∧ (fun x => (fun x => (InK .u64) x.1 ∧ (InK .u64) x.2.1 ∧ (InK .u64) x.2.2.1 ∧ (InK .u64) x.2.2.2) x.1 ∧ (fun x => (InK .i64) x.1 ∧ (InK .i64) x.2) x.2) x.2)) (m := (fun x => (fun l => sumOf (fun _ => 1) l + 1) x.1 + (fun x => (fun _ => 0) x.1 + (fun x => (fun _ => 1) x.1 + (fun _ => 1) x.2) x.2) x.2)) Tryz.underlying41 (by kernel_rfl) ?_
  refine ReadsFs.cons (e := (eL (eI .i64))) (e2 := (eP (eP (eI .u64) (eP (eI .u64) (eP (eI .u64) (eI .u64)))) (eP (eI .i64) (eI .i64)))) (Q := (fun l => l.length ≤ maxLen ∧ ∀ x ∈ l, (InK .i64) x)) (Q2 := (fun x => (fun x => (InK .u64) x.1 ∧ (InK .u64) x.2.1 ∧ (InK .u64) x.2.2.1 ∧ (InK .u64) x.2.2.2) x.1 ∧ (fun x => (InK .i64) x.1 ∧ (InK .i64) x.2) x.2)) (m := (fun l => sumOf (fun _ => 1) l + 1)) (m2 := (fun x => (fun _ => 0) x.1 + (fun x => (fun _ => 1) x.1 + (fun _ => 1) x.2) x.2)) r23 rfl ?_
  refine ReadsFs.cons (e := (eP (eI .u64) (eP (eI .u64) (eP (eI .u64) (eI .u64))))) (e2 := (eP (eI .i64) (eI .i64))) (Q := (fun x => (InK .u64) x.1 ∧ (InK .u64) x.2.1 ∧ (InK .u64) x.2.2.1 ∧ (InK .u64) x.2.2.2)) (Q2 := (fun x => (InK .i64) x.1 ∧ (InK .i64) x.2)) (m := (fun _ => 0)) (m2 := (fun x => (fun _ => 1) x.1 + (fun _ => 1) x.2)) r39 rfl ?_
  refine ReadsFs.cons (e := (eI .i64)) (e2 := (eI .i64)) (Q := (InK .i64)) (Q2 := (InK .i64)) (m := (fun _ => 1)) (m2 := (fun _ => 1)) r3 rfl ?_
  exact .one r3 rfl
theorem r22 : Reads Tryz.prog 22 (eL (eP (eL (eI .i64)) (eP (eP (eI .u64) (eP (eI .u64) (eP (eI .u64) (eI .u64)))) (eP (eI .i64) (eI .i64))))) (fun l => l.length ≤ maxLen ∧ ∀ x ∈ l, (fun x => (fun l => l.length ≤ maxLen ∧ ∀ x ∈ l, (InK .i64) x) x.1 ∧ (fun x => (fun x => (InK .u64) x.1 ∧ (InK .u64) x.2.1 ∧ (InK .u64) x.2.2.1 ∧ (InK .u64) x.2.2.2) x.1 ∧ (fun x => (InK .i64) x.1 ∧ (InK .i64) x.2) x.2) x.2) x) (fun l => sumOf (fun x => (fun x => (fun l => sumOf (fun _ => 1) l + 1) x.1 + (fun x => (fun _ => 0) x.1 + (fun x => (fun _ => 1) x.1 + (fun _ => 1) x.2) x.2) x.2) x + 1) l + 1) := .slice r41 Tryz.underlying22 (by kernel_rfl) (by decide)
theorem r25 : Reads Tryz.prog 25 (eP (eL (eP (eL (eI .i64)) (eP (eP (eI .u64) (eP (eI .u64) (eP (eI .u64) (eI .u64)))) (eP (eI .i64) (eI .i64))))) (eL (eI .i64))) (fun x => (fun l => l.length ≤ maxLen ∧ ∀ x ∈ l, (fun x => (fun l => l.length ≤ maxLen ∧ ∀ x ∈ l, (InK .i64) x) x.1 ∧ (fun x => (fun x => (InK .u64) x.1 ∧ (InK .u64) x.2.1 ∧ (InK .u64) x.2.2.1 ∧ (InK .u64) x.2.2.2) x.1 ∧ (fun x => (InK .i64) x.1 ∧ (InK .i64) x.2) x.2) x.2) x) x.1 ∧ (fun l => l.length ≤ maxLen ∧ ∀ x ∈ l, (InK .i64) x) x.2) (fun x => (fun x => (fun l => sumOf (fun x => (fun x => (fun l => sumOf (fun _ => 1) l + 1) x.1 + (fun x => (fun _ => 0) x.1 + (fun x => (fun _ => 1) x.1 + (fun _ => 1) x.2) x.2) x.2) x + 1) l + 1) x.1 + (fun l => sumOf (fun _ => 1) l + 1) x.2) x + 1) := by
  refine Reads.struct (e := (eP (eL (eP (eL (eI .i64)) (eP (eP (eI .u64) (eP (eI .u64) (eP (eI .u64) (eI .u64)))) (eP (eI .i64) (eI .i64))))) (eL (eI .i64)))) (Q := (fun x => (fun l => l.length ≤ maxLen ∧ ∀ x ∈ l, (fun x => (fun l => l.length ≤ maxLen ∧ ∀ x ∈ l, (InK .i64) x) x.1 ∧ (fun x => (fun x => (InK .u64) x.1 ∧ (InK .u64) x.2.1 ∧ (InK .u64) x.2.2.1 ∧ (InK .u64) x.2.2.2) x.1 ∧ (fun x => (InK .i64) x.1 ∧ (InK .i64) x.2) x.2) x.2) x) x.1 ∧ (fun l => l.length ≤ maxLen ∧ ∀ x ∈ l, (InK .i64) x) x.2)) (m := (fun x => (fun l => sumOf (fun x => (fun x => (fun l => sumOf (fun _ => 1) l + 1) x.1 + (fun x => (fun _ => 0) x.1 + (fun x => (fun _ => 1) x.1 + (fun _ => 1) x.2) x.2) x.2) x + 1) l + 1) x.1 + (fun l => sumOf (fun _ => 1) l + 1) x.2)) Tryz.underlying25 (by kernel_rfl) ?_
  refine ReadsFs.cons (e := (eL (eP (eL (eI .i64)) (eP (eP (eI .u64) (eP (eI .u64) (eP (eI .u64) (eI .u64)))) (eP (eI .i64) (eI .i64)))))) (e2 := (eL (eI .i64))) (Q := (fun l => l.length ≤ maxLen ∧ ∀ x ∈ l, (fun x => (fun l => l.length ≤ maxLen ∧ ∀ x ∈ l, (InK .i64) x) x.1 ∧ (fun x => (fun x => (InK .u64) x.1 ∧ (InK .u64) x.2.1 ∧ (InK .u64) x.2.2.1 ∧ (InK .u64) x.2.2.2) x.1 ∧ (fun x => (InK .i64) x.1 ∧ (InK .i64) x.2) x.2) x.2) x)) (Q2 := (fun l => l.length ≤ maxLen ∧ ∀ x ∈ l, (InK .i64) x)) (m := (fun l => sumOf (fun x => (fun x => (fun l => sumOf (fun _ => 1) l + 1) x.1 + (fun x => (fun _ => 0) x.1 + (fun x => (fun _ => 1) x.1 + (fun _ => 1) x.2) x.2) x.2) x + 1) l + 1)) (m2 := (fun l => sumOf (fun _ => 1) l + 1)) r22 rfl ?_
  exact .one r23 rfl
theorem r5 : Reads Tryz.prog 5 (eI .u8) (InK .u8) (fun _ => 1) := .int Tryz.underlying5 (by kernel_rfl)
theorem r42 : Reads Tryz.prog 42 (eL (eI .u8)) (fun l => l.length ≤ maxLen ∧ ∀ x ∈ l, (InK .u8) x) (fun l => sumOf (fun _ => 1) l + 1) := .slice r5 Tryz.underlying42 (by kernel_rfl) (by decide)
theorem r43 : Reads Tryz.prog 43 (eP (eI .i64) (eP (eI .i64) (eI .i64))) (fun x => (InK .i64) x.1 ∧ (InK .i64) x.2.1 ∧ (InK .i64) x.2.2) (fun _ => 0) := .arr3 r3 Tryz.underlying43 (by kernel_rfl)
/-- what is known of the arguments that came in -/
structure Came (l1 : List ((List Int) × (Int × Int × Int × Int) × Int × Int)) (l4 : List Int) (l7 : List Int) (n10 : Int) (n11 : Int) (n12 : Int) : Prop where
  hArg0 : (fun x => (fun l => l.length ≤ maxLen ∧ ∀ x ∈ l, (fun x => (fun l => l.length ≤ maxLen ∧ ∀ x ∈ l, (InK .i64) x) x.1 ∧ (fun x => (fun x => (InK .u64) x.1 ∧ (InK .u64) x.2.1 ∧ (InK .u64) x.2.2.1 ∧ (InK .u64) x.2.2.2) x.1 ∧ (fun x => (InK .i64) x.1 ∧ (InK .i64) x.2) x.2) x.2) x) x.1 ∧ (fun l => l.length ≤ maxLen ∧ ∀ x ∈ l, (InK .i64) x) x.2) (l1, l4)
  hArg1 : (fun l => l.length ≤ maxLen ∧ ∀ x ∈ l, (InK .u8) x) l7
  hArg2 : (fun x => (InK .i64) x.1 ∧ (InK .i64) x.2.1 ∧ (InK .i64) x.2.2) (n10, n11, n12)

theorem contract (pure : ∀ l1 l4 l7 n10 n11 n12, Came l1 l4 l7 n10 n11 n12 → ∃ N, F_dofferlaw16_WalkRuns N l1 l4 l7 n10 n11 n12 = some true)
    (H : Type) (enc : TypeId × Value → H) (W : World) (base : Nat) (args : Array Value) (ds gs : List (DataW H)) (before : List MemPlace)
    (hval : ∀ (j : Nat) t v, Tryz.f4.params[j]? = some t → args[j]? = some v → Value.okWide Tryz.prog W .any base t v)
    (hW : DataW.Whole enc Tryz.prog Tryz.f4.params.toList Rows.walkRunsSpec.vars false W args.toList ds gs before) (hL : laidMetH Tryz.prog Rows.walkRunsRow.laid W) :
    Calls Tryz.prog 4 args W fun e W' => ∃ v, e = .returned v ∧ Rows.walkRunsSpec.post enc Tryz.prog Tryz.f4 false true false false W args v W' := by
  have hW' := hW
  obtain ⟨p, q, hA0, hV, rfl, hfz, hnd⟩ := hW
  have hA : DataW.TrodAll enc Tryz.prog W 0 (fun _ => true) true Tryz.f4.params.toList args.toList ds p := hA0
  rw [Tryz.params4] at hA hval
  obtain ⟨w0, vs0, d0, ds0, p0, q0, hv0, rfl, rfl, h0, r0⟩ := trodAll_cons hA
  obtain ⟨w1, vs1, d1, ds1, p1, q1, hv1, rfl, rfl, h1, r1⟩ := trodAll_cons r0
  subst hv1
  obtain ⟨w2, vs2, d2, ds2, p2, q2, hv2, rfl, rfl, h2, r2⟩ := trodAll_cons r1
  subst hv2
  obtain ⟨rfl, rfl, rfl⟩ := trodAll_nil r2
  obtain rfl : args = #[w0, w1, w2] := by cases args; simp_all
  obtain ⟨rfl, rfl⟩ := trodVars_none hV
  obtain ⟨cs0, rfl, sz0⟩ := okWide_struct Tryz.underlying25 (hval 0 25 w0 rfl rfl)
  obtain ⟨_, h0⟩ := h0
  obtain ⟨a0, k0, u0, _⟩ := r25.rd h0
  obtain ⟨cs0⟩ := cs0
  replace k0 : (eP (eL (eP (eL (eI .i64)) (eP (eP (eI .u64) (eP (eI .u64) (eP (eI .u64) (eI .u64)))) (eP (eI .i64) (eI .i64))))) (eL (eI .i64))).rd (hv W) a0 cs0 := k0
  obtain ⟨l1, l4⟩ := a0
  obtain ⟨_, _, rfl, ⟨v2, rfl, g3⟩, ⟨v5, rfl, g6⟩⟩ := k0
  obtain ⟨ad1, ln1, cp1, rfl⟩ := okWide_slice Tryz.underlying42 (hval 1 42 w1 rfl rfl)
  obtain ⟨_, h1⟩ := h1
  obtain ⟨l7, ⟨_, e1, g9⟩, u1, _⟩ := r42.rd h1
  obtain rfl := (List.cons.inj e1).1
  obtain ⟨cs2, rfl, sz2⟩ := okWideArr Tryz.underlying43 (hval 2 43 w2 rfl rfl)
  obtain ⟨_, h2⟩ := h2
  obtain ⟨a2, k2, u2, _⟩ := r43.rd h2
  obtain ⟨cs2⟩ := cs2
  replace k2 : (eP (eI .i64) (eP (eI .i64) (eI .i64))).rd (hv W) a2 cs2 := k2
  obtain ⟨n10, n11, n12⟩ := a2
  obtain ⟨_, _, rfl, rfl, ⟨_, _, rfl, rfl, rfl⟩⟩ := k2
  obtain ⟨N, hF⟩ := pure _ _ _ _ _ _ ⟨u0, u1, u2⟩
  obtain ⟨ge, gle⟩ := errs hL
  refine (c_4 (Hp.start W) gle (table18 hL) g3 g6 g9 hF).mono fun e W' he => ?_
  obtain ⟨v, rfl, _, x, rfl, rfl, _, Hend⟩ := he
  exact ⟨_, rfl, post_law (tb := 4) laidOut (fun t ht => by
    rw [Tryz.params4] at ht
    have ht : t = 25 ∨ t = 42 ∨ t = 43 := by simpa using ht
    rcases ht with rfl | rfl | rfl <;> exact ⟨by kernel_rfl, by decide +kernel⟩) rfl ⟨rfl, rfl, rfl⟩ rfl Tryz.underlying4 hW' Hend.below⟩

theorem reads (os : Os) {H : Type} (enc : TypeId × Value → H) : ∃ places, DataW.whole enc Tryz.prog ((World.laidAll Tryz.prog os Rows.walkRunsRow.laid).forCall (fun _ _ => 0) ⟨#[], #[.agg #[.slice none 0 0, .slice none 0 0], .slice none 0 0, .agg #[.int .i64 0, .int .i64 0, .int .i64 0]], []⟩).memory Tryz.f4.params.toList Rows.walkRunsSpec.vars false
    (#[.agg #[.slice none 0 0, .slice none 0 0], .slice none 0 0, .agg #[.int .i64 0, .int .i64 0, .int .i64 0]] : Array Value).toList 8 = some ([.agg [.nil, .nil], .nil, .agg [.lit (.int .i64 0), .lit (.int .i64 0), .lit (.int .i64 0)]], [], places) :=
  ⟨[], by kernel_rfl⟩

set_option maxRecDepth 100000 in
theorem lifted (pure : ∀ l1 l4 l7 n10 n11 n12, Came l1 l4 l7 n10 n11 n12 → ∃ N, F_dofferlaw16_WalkRuns N l1 l4 l7 n10 n11 n12 = some true) (os : Os) (started : os.Started) (H : Type) (enc : TypeId × Value → H) (F : Stop.Interp) :
    ReturnsInHanded {} Tryz.checked os 4 .any ((OpenSpec.ofChange Rows.walkRunsSpec).preRow enc Tryz.prog Tryz.f4 Rows.walkRunsRow.domain false Rows.walkRunsRow.laid) (((OpenSpec.ofChange Rows.walkRunsSpec).at F).post enc Tryz.prog Tryz.f4 false true false false) := by
  obtain ⟨places, hx⟩ := reads os enc
  refine returnsInHanded_of_row (C := Tryz.checked) (s := OpenSpec.ofChange Rows.walkRunsSpec) own started (by kernel_rfl) Tryz.func4
    (witness_row_atRef (enc := enc) (C := Tryz.checked) false (World.laidAll Tryz.prog os Rows.walkRunsRow.laid) #[.agg #[.slice none 0 0, .slice none 0 0], .slice none 0 0, .agg #[.int .i64 0, .int .i64 0, .int .i64 0]] (World.laidAll_os _ _ _) (by kernel_rfl) (by kernel_rfl) (by kernel_rfl)
      (OpenSpec.preRow_of_cond 8 hx (by kernel_rfl) (fun k hk => by cases hk) (by kernel_rfl) (met os _))) ?_
  intro W base args ds gs before hval hW _ _ _ hL _ _
  exact contract pure H enc W base args ds gs before hval hW hL

theorem cl1 : (Rows.walkRunsRow.inPlace == Tryz.pinned.checked.prog.inPlace 4) = true := by kernel_rfl
theorem cl2 : (Rows.walkRunsRow.unfollowed == Tryz.pinned.checked.prog.unfollowed 4) = true := by kernel_rfl
theorem cl3 : (Rows.walkRunsRow.recurses == Tryz.pinned.checked.prog.recurses 4) = true := by kernel_rfl
theorem cl4 : (Rows.walkRunsRow.named == Tryz.pinned.checked.prog.varsNamed 4) = true := by kernel_rfl
theorem cl5 : laidOutB Tryz.pinned.checked.prog = true := laidOut
theorem closed : joinedFacts Tryz.pinned.checked.prog 4 Tryz.f4 (OpenSpec.ofChange Rows.walkRunsSpec).bare Rows.walkRunsRow = true := by
  unfold joinedFacts
  rw [cl1, cl2, cl3, cl4, cl5]
  kernel_rfl

theorem said (pure : ∀ l1 l4 l7 n10 n11 n12, Came l1 l4 l7 n10 n11 n12 → ∃ N, F_dofferlaw16_WalkRuns N l1 l4 l7 n10 n11 n12 = some true) : Rows.WalkRunsSaid :=
  OpenClaim.holds_of_cond 4 Tryz.f4 rfl rfl rfl rfl rfl rfl rfl ⟨rfl, rfl, rfl, rfl, rfl⟩ rfl rfl rfl rfl rfl (by kernel_rfl) Tryz.func4 closed
    (of_decide_eq_true (by kernel_rfl)) (by unfold Func.isWrapper; first | (rw [if_pos (by decide +kernel)]; kernel_rfl) | (rw [if_neg (by decide +kernel)]; exact ⟨rfl, rfl⟩))
    (fun os started H enc _ F => by rw [OpenClaim.pre_eq_preRow]; exact lifted pure os started H enc F)

theorem plain (f : FuncId) (fn : Func) (hf : Tryz.pinned.checked.prog.funcNamed "doffer/dofferlaw16.WalkRuns" = some f) (hfn : Tryz.pinned.checked.prog.funcs[f]? = some fn) :
    true = Tryz.pinned.checked.prog.looks [] ∧ ∀ (j : Nat) t, fn.params[j]? = some t → Tryz.pinned.checked.prog.wantsStandIn t = false := by
  obtain rfl : f = 4 := Option.some.inj ((show Tryz.prog.funcNamed "doffer/dofferlaw16.WalkRuns" = some 4 by kernel_rfl).symm.trans hf) |>.symm
  obtain rfl : fn = Tryz.f4 := (Option.some.inj (Tryz.func4.symm.trans hfn)).symm
  refine ⟨by kernel_rfl, fun j t ht => ?_⟩
  rw [Tryz.params4] at ht
  have ht : t = 25 ∨ t = 42 ∨ t = 43 := by simpa using Array.mem_of_getElem? ht
  rcases ht with rfl | rfl | rfl
  · exact (show Tryz.prog.wantsStandIn 25 = false by kernel_rfl)
  · exact (show Tryz.prog.wantsStandIn 42 = false by kernel_rfl)
  · exact (show Tryz.prog.wantsStandIn 43 = false by kernel_rfl)

theorem card (pure : ∀ l1 l4 l7 n10 n11 n12, Came l1 l4 l7 n10 n11 n12 → ∃ N, F_dofferlaw16_WalkRuns N l1 l4 l7 n10 n11 n12 = some true) : Rows.WalkRunsCardSaid :=
  Claim7.holds_tied_plain_at .later [] _ _ _ _ (said pure) (fun _ h => by cases h) (by kernel_rfl) (fun _ h => by cases h) walkRuns_row_tie rfl ⟨rfl, rfl⟩ (by kernel_rfl) rfl plain (by kernel_rfl)
end WalkRuns
/-- THE CARD OF WalkRuns -/
theorem WalkRuns_proved : Rows.WalkRunsCardSaid := WalkRuns.card fun _ _ _ _ _ _ h => walkRuns_true (fun s hs => by
  have := (h.hArg0.1.2 s hs).2.1
  simp only [Go.Eng.InK, IntKind.min, IntKind.max, IntKind.signed, IntKind.bits] at this
  simp at this
  unfold Wd
  omega) (fun c hc => by
  have := h.hArg1.2 c hc
  simp only [Go.Eng.InK, IntKind.min, IntKind.max, IntKind.signed, IntKind.bits] at this
  simp at this
  omega)
end Go.Proofs.YtealkahefalaeaaGreatDoor
