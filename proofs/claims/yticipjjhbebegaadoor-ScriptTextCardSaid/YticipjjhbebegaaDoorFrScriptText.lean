/-
  THE CLAIM: the law, whatever the input, answers true and leaves its arguments as they were. Conditions: the listed variables' tie (given).
-/
import Derived.Test.YticipjjhbebegaaDoorScriptTextE1
import Derived.Test.YticipjjhbebegaaDoorScriptTextb
import Derived.Test.YticipjjhbebegaaDoorScriptTextP1
import Derived.Test.YticipjjhbebegaaDoorCards
import Derived.Test.YticipjjhbebegaaDoorTie
import Derived.Deep.DeepHandedRow
import Derived.Deep.DeepWitnessRowRef
import Derived.LaidMore
import Derived.Lay
import Derived.ProofKit
namespace Go.Proofs.YticipjjhbebegaaDoor
namespace ScriptText
open Go Go.Eng Go.ChangeShapes Go.WideShapes Go.ChangeAt Go.RowKit

set_option maxRecDepth 100000
theorem own : ownKnob Tryd.prog.godebug = none := by kernel_rfl
theorem laidOut : laidOutB Tryd.prog = true := by kernel_rfl
theorem met (os : Os) (args : Array Value) : laidMetH Tryd.prog Rows.scriptTextRow.laid ((World.laidAll Tryd.prog os Rows.scriptTextRow.laid).forCall (fun _ _ => 0) ⟨#[], args, []⟩).memory := by
  rw [MakeChecks.laidMetH_plain _ _ _ (by kernel_rfl)]
  exact laidMet_laidAll _ (by kernel_rfl) (by kernel_rfl)
theorem star : "*" ++ "errors.errorString" = "*errors.errorString" := by decide
theorem row137 (u : TypeId) (h : Tryd.prog.typeName? 3 u = some "*errors.errorString") : u = 137 :=
  typeName_ptr_named (nm := "errors.errorString") (by rw [star]; kernel_rfl) (by kernel_rfl) (by decide) u (by rw [star]; exact h)
theorem errs {W : World} (h : laidMetH Tryd.prog Rows.scriptTextRow.laid W) : ∃ ge, GErrs (hv W) 137 errIds ge := by
  rw [MakeChecks.laidMetH_plain _ _ _ (by kernel_rfl)] at h
  refine gErrs_of (nm := "*errors.errorString") (ti := 25) (te := 160) (ts := 9) ⟨Tryd.underlying25, row137, Tryd.underlying137, Tryd.underlying160, rfl, rfl, Tryd.underlying9, by kernel_rfl, by kernel_rfl⟩ h fun k hk => ?_
  have hk : k = 0 ∨ k = 1 ∨ k = 2 ∨ k = 3 ∨ k = 4 ∨ k = 5 ∨ k = 6 ∨ k = 7 ∨ k = 8 ∨ k = 9 ∨ k = 10 ∨ k = 11 ∨ k = 12 ∨ k = 13 ∨ k = 14 ∨ k = 15 ∨ k = 16 ∨ k = 17 := by simpa [errIds] using hk
  rcases hk with rfl | rfl | rfl | rfl | rfl | rfl | rfl | rfl | rfl | rfl | rfl | rfl | rfl | rfl | rfl | rfl | rfl | rfl
  · exact ⟨"doffer/api.ErrForm", _, List.mem_cons_of_mem _ (List.mem_cons_of_mem _ (List.mem_cons_of_mem _ (List.mem_cons_of_mem _ (List.mem_cons_self ..)))), by kernel_rfl, by kernel_rfl⟩
  · exact ⟨"doffer/api.ErrRange", _, List.mem_cons_of_mem _ (List.mem_cons_self ..), by kernel_rfl, by kernel_rfl⟩
  · exact ⟨"doffer/api.ErrShort", _, List.mem_cons_of_mem _ (List.mem_cons_of_mem _ (List.mem_cons_self ..)), by kernel_rfl, by kernel_rfl⟩
  · exact ⟨"doffer/api.ErrLong", _, List.mem_cons_of_mem _ (List.mem_cons_of_mem _ (List.mem_cons_of_mem _ (List.mem_cons_self ..))), by kernel_rfl, by kernel_rfl⟩
  · exact ⟨"doffer/api.ErrName", _, List.mem_cons_of_mem _ (List.mem_cons_of_mem _ (List.mem_cons_of_mem _ (List.mem_cons_of_mem _ (List.mem_cons_of_mem _ (List.mem_cons_self ..))))), by kernel_rfl, by kernel_rfl⟩
  · exact ⟨"doffer/api.ErrDup", _, List.mem_cons_of_mem _ (List.mem_cons_of_mem _ (List.mem_cons_of_mem _ (List.mem_cons_of_mem _ (List.mem_cons_of_mem _ (List.mem_cons_of_mem _ (List.mem_cons_self ..)))))), by kernel_rfl, by kernel_rfl⟩
  · exact ⟨"doffer/api.ErrDepth", _, List.mem_cons_of_mem _ (List.mem_cons_of_mem _ (List.mem_cons_of_mem _ (List.mem_cons_of_mem _ (List.mem_cons_of_mem _ (List.mem_cons_of_mem _ (List.mem_cons_of_mem _ (List.mem_cons_self ..))))))), by kernel_rfl, by kernel_rfl⟩
  · exact ⟨"doffer/api.ErrLoop", _, List.mem_cons_of_mem _ (List.mem_cons_of_mem _ (List.mem_cons_of_mem _ (List.mem_cons_of_mem _ (List.mem_cons_of_mem _ (List.mem_cons_of_mem _ (List.mem_cons_of_mem _ (List.mem_cons_of_mem _ (List.mem_cons_self ..)))))))), by kernel_rfl, by kernel_rfl⟩
  · exact ⟨"doffer/api.ErrLimit", _, List.mem_cons_of_mem _ (List.mem_cons_of_mem _ (List.mem_cons_of_mem _ (List.mem_cons_of_mem _ (List.mem_cons_of_mem _ (List.mem_cons_of_mem _ (List.mem_cons_of_mem _ (List.mem_cons_of_mem _ (List.mem_cons_of_mem _ (List.mem_cons_self ..))))))))), by kernel_rfl, by kernel_rfl⟩
  · exact ⟨"doffer/api.ErrSum", _, List.mem_cons_of_mem _ (List.mem_cons_of_mem _ (List.mem_cons_of_mem _ (List.mem_cons_of_mem _ (List.mem_cons_of_mem _ (List.mem_cons_of_mem _ (List.mem_cons_of_mem _ (List.mem_cons_of_mem _ (List.mem_cons_of_mem _ (List.mem_cons_of_mem _ (List.mem_cons_self ..)))))))))), by kernel_rfl, by kernel_rfl⟩
  · exact ⟨"doffer/api.ErrVersion", _, List.mem_cons_of_mem _ (List.mem_cons_of_mem _ (List.mem_cons_of_mem _ (List.mem_cons_of_mem _ (List.mem_cons_of_mem _ (List.mem_cons_of_mem _ (List.mem_cons_of_mem _ (List.mem_cons_of_mem _ (List.mem_cons_of_mem _ (List.mem_cons_of_mem _ (List.mem_cons_of_mem _ (List.mem_cons_self ..))))))))))), by kernel_rfl, by kernel_rfl⟩
  · exact ⟨"doffer/api.ErrIndex", _, List.mem_cons_of_mem _ (List.mem_cons_of_mem _ (List.mem_cons_of_mem _ (List.mem_cons_of_mem _ (List.mem_cons_of_mem _ (List.mem_cons_of_mem _ (List.mem_cons_of_mem _ (List.mem_cons_of_mem _ (List.mem_cons_of_mem _ (List.mem_cons_of_mem _ (List.mem_cons_of_mem _ (List.mem_cons_of_mem _ (List.mem_cons_self ..)))))))))))), by kernel_rfl, by kernel_rfl⟩
  · exact ⟨"doffer/api.ErrFull", _, List.mem_cons_of_mem _ (List.mem_cons_of_mem _ (List.mem_cons_of_mem _ (List.mem_cons_of_mem _ (List.mem_cons_of_mem _ (List.mem_cons_of_mem _ (List.mem_cons_of_mem _ (List.mem_cons_of_mem _ (List.mem_cons_of_mem _ (List.mem_cons_of_mem _ (List.mem_cons_of_mem _ (List.mem_cons_of_mem _ (List.mem_cons_of_mem _ (List.mem_cons_self ..))))))))))))), by kernel_rfl, by kernel_rfl⟩
  · exact ⟨"doffer/api.ErrCredit", _, List.mem_cons_of_mem _ (List.mem_cons_of_mem _ (List.mem_cons_of_mem _ (List.mem_cons_of_mem _ (List.mem_cons_of_mem _ (List.mem_cons_of_mem _ (List.mem_cons_of_mem _ (List.mem_cons_of_mem _ (List.mem_cons_of_mem _ (List.mem_cons_of_mem _ (List.mem_cons_of_mem _ (List.mem_cons_of_mem _ (List.mem_cons_of_mem _ (List.mem_cons_of_mem _ (List.mem_cons_self ..)))))))))))))), by kernel_rfl, by kernel_rfl⟩
  · exact ⟨"doffer/api.ErrNone", _, List.mem_cons_of_mem _ (List.mem_cons_of_mem _ (List.mem_cons_of_mem _ (List.mem_cons_of_mem _ (List.mem_cons_of_mem _ (List.mem_cons_of_mem _ (List.mem_cons_of_mem _ (List.mem_cons_of_mem _ (List.mem_cons_of_mem _ (List.mem_cons_of_mem _ (List.mem_cons_of_mem _ (List.mem_cons_of_mem _ (List.mem_cons_of_mem _ (List.mem_cons_of_mem _ (List.mem_cons_of_mem _ (List.mem_cons_self ..))))))))))))))), by kernel_rfl, by kernel_rfl⟩
  · exact ⟨"doffer/api.ErrState", _, List.mem_cons_of_mem _ (List.mem_cons_of_mem _ (List.mem_cons_of_mem _ (List.mem_cons_of_mem _ (List.mem_cons_of_mem _ (List.mem_cons_of_mem _ (List.mem_cons_of_mem _ (List.mem_cons_of_mem _ (List.mem_cons_of_mem _ (List.mem_cons_of_mem _ (List.mem_cons_of_mem _ (List.mem_cons_of_mem _ (List.mem_cons_of_mem _ (List.mem_cons_of_mem _ (List.mem_cons_of_mem _ (List.mem_cons_of_mem _ (List.mem_cons_self ..)))))))))))))))), by kernel_rfl, by kernel_rfl⟩
  · exact ⟨"doffer/api.ErrParked", _, List.mem_cons_of_mem _ (List.mem_cons_of_mem _ (List.mem_cons_of_mem _ (List.mem_cons_of_mem _ (List.mem_cons_of_mem _ (List.mem_cons_of_mem _ (List.mem_cons_of_mem _ (List.mem_cons_of_mem _ (List.mem_cons_of_mem _ (List.mem_cons_of_mem _ (List.mem_cons_of_mem _ (List.mem_cons_of_mem _ (List.mem_cons_of_mem _ (List.mem_cons_of_mem _ (List.mem_cons_of_mem _ (List.mem_cons_of_mem _ (List.mem_cons_of_mem _ (List.mem_cons_self ..))))))))))))))))), by kernel_rfl, by kernel_rfl⟩
  · exact ⟨"doffer/api.ErrTag", _, List.mem_cons_of_mem _ (List.mem_cons_of_mem _ (List.mem_cons_of_mem _ (List.mem_cons_of_mem _ (List.mem_cons_of_mem _ (List.mem_cons_of_mem _ (List.mem_cons_of_mem _ (List.mem_cons_of_mem _ (List.mem_cons_of_mem _ (List.mem_cons_of_mem _ (List.mem_cons_of_mem _ (List.mem_cons_of_mem _ (List.mem_cons_of_mem _ (List.mem_cons_of_mem _ (List.mem_cons_of_mem _ (List.mem_cons_of_mem _ (List.mem_cons_of_mem _ (List.mem_cons_of_mem _ (List.mem_cons_self ..)))))))))))))))))), by kernel_rfl, by kernel_rfl⟩
theorem r3 : Reads Tryd.prog 3 (eI .i64) (InK .i64) (fun _ => 1) := .int Tryd.underlying3 (by kernel_rfl)
theorem r5 : Reads Tryd.prog 5 (eI .u8) (InK .u8) (fun _ => 1) := .int Tryd.underlying5 (by kernel_rfl)
theorem r34 : Reads Tryd.prog 34 (eL (eI .u8)) (fun l => l.length ≤ maxLen ∧ ∀ x ∈ l, (InK .u8) x) (fun l => sumOf (fun _ => 1) l + 1) := .slice r5 Tryd.underlying34 (by kernel_rfl) (by decide)
theorem r43 : Reads Tryd.prog 43 (eP (eI .i64) (eP (eI .i64) (eP (eI .i64) (eL (eI .u8))))) (fun x => (InK .i64) x.1 ∧ (fun x => (InK .i64) x.1 ∧ (fun x => (InK .i64) x.1 ∧ (fun l => l.length ≤ maxLen ∧ ∀ x ∈ l, (InK .u8) x) x.2) x.2) x.2) (fun x => (fun x => (fun _ => 1) x.1 + (fun x => (fun _ => 1) x.1 + (fun x => (fun _ => 1) x.1 + (fun l => sumOf (fun _ => 1) l + 1) x.2) x.2) x.2) x + 1) := by
  refine Reads.struct (e := (eP (eI .i64) (eP (eI .i64) (eP (eI .i64) (eL (eI .u8)))))) (Q := (fun x => (InK .i64) x.1 ∧ (fun x => (InK .i64) x.1 ∧ (fun x => (InK .i64) x.1 ∧ (fun l => l.length ≤ maxLen ∧ ∀ x ∈ l, (InK .u8) x) x.2) x.2) x.2)) (m := (fun x => (fun _ => 1) x.1 + (fun x => (fun _ => 1) x.1 + (fun x => (fun _ => 1) x.1 + (fun l => sumOf (fun _ => 1) l + 1) x.2) x.2) x.2)) Tryd.underlying43 (by kernel_rfl) ?_
  refine ReadsFs.cons (e := (eI .i64)) (e2 := (eP (eI .i64) (eP (eI .i64) (eL (eI .u8))))) (Q := (InK .i64)) (Q2 := (fun x => (InK .i64) x.1 ∧ (fun x => (InK .i64) x.1 ∧ (fun l => l.length ≤ maxLen ∧ ∀ x ∈ l, (InK .u8) x) x.2) x.2)) (m := (fun _ => 1)) (m2 := (fun x => (fun _ => 1) x.1 + (fun x => (fun _ => 1) x.1 + (fun l => sumOf (fun _ => 1) l + 1) x.2) x.2)) r3 rfl ?_
  refine ReadsFs.cons (e := (eI .i64)) (e2 := (eP (eI .i64) (eL (eI .u8)))) (Q := (InK .i64)) (Q2 := (fun x => (InK .i64) x.1 ∧ (fun l => l.length ≤ maxLen ∧ ∀ x ∈ l, (InK .u8) x) x.2)) (m := (fun _ => 1)) (m2 := (fun x => (fun _ => 1) x.1 + (fun l => sumOf (fun _ => 1) l + 1) x.2)) r3 rfl ?_
  refine ReadsFs.cons (e := (eI .i64)) (e2 := (eL (eI .u8))) (Q := (InK .i64)) (Q2 := (fun l => l.length ≤ maxLen ∧ ∀ x ∈ l, (InK .u8) x)) (m := (fun _ => 1)) (m2 := (fun l => sumOf (fun _ => 1) l + 1)) r3 rfl ?_
  exact .one r34 rfl
theorem r9 : Reads Tryd.prog 9 eS (fun s => s.size ≤ maxLen) (fun s => s.size + 1) := .str Tryd.underlying9 (by kernel_rfl)
theorem r51 : Reads Tryd.prog 51 (eP (eI .i64) (eP eS (eP eS (eP (eI .i64) (eL (eI .u8)))))) (fun x => (InK .i64) x.1 ∧ (fun x => (fun s => s.size ≤ maxLen) x.1 ∧ (fun x => (fun s => s.size ≤ maxLen) x.1 ∧ (fun x => (InK .i64) x.1 ∧ (fun l => l.length ≤ maxLen ∧ ∀ x ∈ l, (InK .u8) x) x.2) x.2) x.2) x.2) (fun x => (fun x => (fun _ => 1) x.1 + (fun x => (fun s => s.size + 1) x.1 + (fun x => (fun s => s.size + 1) x.1 + (fun x => (fun _ => 1) x.1 + (fun l => sumOf (fun _ => 1) l + 1) x.2) x.2) x.2) x.2) x + 1) := by
  refine Reads.struct (e := (eP (eI .i64) (eP eS (eP eS (eP (eI .i64) (eL (eI .u8))))))) (Q := (fun x => (InK .i64) x.1 ∧ (fun x => (fun s => s.size ≤ maxLen) x.1 ∧ (fun x => (fun s => s.size ≤ maxLen) x.1 ∧ (fun x => (InK .i64) x.1 ∧ (fun l => l.length ≤ maxLen ∧ ∀ x ∈ l, (InK .u8) x) x.2) x.2) x.2) x.2)) (m := (fun x => (fun _ => 1) x.1 + (fun x => (fun s => s.size + 1) x.1 + (fun x => (fun s => s.size + 1) x.1 + (fun x => (fun _ => 1) x.1 + (fun l => sumOf (fun _ => 1) l + 1) x.2) x.2) x.2) x.2)) Tryd.underlying51 (by kernel_rfl) ?_
  refine ReadsFs.cons (e := (eI .i64)) (e2 := (eP eS (eP eS (eP (eI .i64) (eL (eI .u8)))))) (Q := (InK .i64)) (Q2 := (fun x => (fun s => s.size ≤ maxLen) x.1 ∧ (fun x => (fun s => s.size ≤ maxLen) x.1 ∧ (fun x => (InK .i64) x.1 ∧ (fun l => l.length ≤ maxLen ∧ ∀ x ∈ l, (InK .u8) x) x.2) x.2) x.2)) (m := (fun _ => 1)) (m2 := (fun x => (fun s => s.size + 1) x.1 + (fun x => (fun s => s.size + 1) x.1 + (fun x => (fun _ => 1) x.1 + (fun l => sumOf (fun _ => 1) l + 1) x.2) x.2) x.2)) r3 rfl ?_
  refine ReadsFs.cons (e := eS) (e2 := (eP eS (eP (eI .i64) (eL (eI .u8))))) (Q := (fun s => s.size ≤ maxLen)) (Q2 := (fun x => (fun s => s.size ≤ maxLen) x.1 ∧ (fun x => (InK .i64) x.1 ∧ (fun l => l.length ≤ maxLen ∧ ∀ x ∈ l, (InK .u8) x) x.2) x.2)) (m := (fun s => s.size + 1)) (m2 := (fun x => (fun s => s.size + 1) x.1 + (fun x => (fun _ => 1) x.1 + (fun l => sumOf (fun _ => 1) l + 1) x.2) x.2)) r9 rfl ?_
  refine ReadsFs.cons (e := eS) (e2 := (eP (eI .i64) (eL (eI .u8)))) (Q := (fun s => s.size ≤ maxLen)) (Q2 := (fun x => (InK .i64) x.1 ∧ (fun l => l.length ≤ maxLen ∧ ∀ x ∈ l, (InK .u8) x) x.2)) (m := (fun s => s.size + 1)) (m2 := (fun x => (fun _ => 1) x.1 + (fun l => sumOf (fun _ => 1) l + 1) x.2)) r9 rfl ?_
  refine ReadsFs.cons (e := (eI .i64)) (e2 := (eL (eI .u8))) (Q := (InK .i64)) (Q2 := (fun l => l.length ≤ maxLen ∧ ∀ x ∈ l, (InK .u8) x)) (m := (fun _ => 1)) (m2 := (fun l => sumOf (fun _ => 1) l + 1)) r3 rfl ?_
  exact .one r34 rfl
/-- what is known of the arguments that came in -/
structure Came (n1 : Int) (n2 : Int) (n3 : Int) (l4 : List Int) (n7 : Int) (s8 : ByteArray) (s9 : ByteArray) (n10 : Int) (l11 : List Int) : Prop where
  hArg0 : (fun x => (InK .i64) x.1 ∧ (fun x => (InK .i64) x.1 ∧ (fun x => (InK .i64) x.1 ∧ (fun l => l.length ≤ maxLen ∧ ∀ x ∈ l, (InK .u8) x) x.2) x.2) x.2) (n1, n2, n3, l4)
  hArg1 : (fun x => (InK .i64) x.1 ∧ (fun x => (fun s => s.size ≤ maxLen) x.1 ∧ (fun x => (fun s => s.size ≤ maxLen) x.1 ∧ (fun x => (InK .i64) x.1 ∧ (fun l => l.length ≤ maxLen ∧ ∀ x ∈ l, (InK .u8) x) x.2) x.2) x.2) x.2) (n7, s8, s9, n10, l11)

theorem contract (pure : ∀ n1 n2 n3 l4 n7 s8 s9 n10 l11, Came n1 n2 n3 l4 n7 s8 s9 n10 l11 → ∃ N, F_dofferlaw36_ScriptText N n1 n2 n3 l4 n7 s8 s9 n10 l11 = some true)
    (H : Type) (enc : TypeId × Value → H) (W : World) (base : Nat) (args : Array Value) (ds gs : List (DataW H)) (before : List MemPlace)
    (hval : ∀ (j : Nat) t v, Tryd.f6.params[j]? = some t → args[j]? = some v → Value.okWide Tryd.prog W .any base t v)
    (hW : DataW.Whole enc Tryd.prog Tryd.f6.params.toList Rows.scriptTextSpec.vars false W args.toList ds gs before) (hL : laidMetH Tryd.prog Rows.scriptTextRow.laid W) :
    Calls Tryd.prog 6 args W fun e W' => ∃ v, e = .returned v ∧ Rows.scriptTextSpec.post enc Tryd.prog Tryd.f6 false true false false W args v W' := by
  have hW' := hW
  obtain ⟨p, q, hA0, hV, rfl, hfz, hnd⟩ := hW
  have hA : DataW.TrodAll enc Tryd.prog W 0 (fun _ => true) true Tryd.f6.params.toList args.toList ds p := hA0
  rw [Tryd.params6] at hA hval
  obtain ⟨w0, vs0, d0, ds0, p0, q0, hv0, rfl, rfl, h0, r0⟩ := trodAll_cons hA
  obtain ⟨w1, vs1, d1, ds1, p1, q1, hv1, rfl, rfl, h1, r1⟩ := trodAll_cons r0
  subst hv1
  obtain ⟨rfl, rfl, rfl⟩ := trodAll_nil r1
  obtain rfl : args = #[w0, w1] := by cases args; simp_all
  obtain ⟨rfl, rfl⟩ := trodVars_none hV
  obtain ⟨cs0, rfl, sz0⟩ := okWide_struct Tryd.underlying43 (hval 0 43 w0 rfl rfl)
  obtain ⟨_, h0⟩ := h0
  obtain ⟨a0, k0, u0, _⟩ := r43.rd h0
  obtain ⟨cs0⟩ := cs0
  replace k0 : (eP (eI .i64) (eP (eI .i64) (eP (eI .i64) (eL (eI .u8))))).rd (hv W) a0 cs0 := k0
  obtain ⟨n1, n2, n3, l4⟩ := a0
  obtain ⟨_, _, rfl, rfl, ⟨_, _, rfl, rfl, ⟨_, _, rfl, rfl, ⟨v5, rfl, g6⟩⟩⟩⟩ := k0
  obtain ⟨cs1, rfl, sz1⟩ := okWide_struct Tryd.underlying51 (hval 1 51 w1 rfl rfl)
  obtain ⟨_, h1⟩ := h1
  obtain ⟨a1, k1, u1, _⟩ := r51.rd h1
  obtain ⟨cs1⟩ := cs1
  replace k1 : (eP (eI .i64) (eP eS (eP eS (eP (eI .i64) (eL (eI .u8)))))).rd (hv W) a1 cs1 := k1
  obtain ⟨n7, s8, s9, n10, l11⟩ := a1
  obtain ⟨_, _, rfl, rfl, ⟨_, _, rfl, rfl, ⟨_, _, rfl, rfl, ⟨_, _, rfl, rfl, ⟨v12, rfl, g13⟩⟩⟩⟩⟩ := k1
  obtain ⟨N, hF⟩ := pure _ _ _ _ _ _ _ _ _ ⟨u0, u1⟩
  obtain ⟨ge, gle⟩ := errs hL
  refine (c_6 (Hp.start W) gle  g6 g13 hF).mono fun e W' he => ?_
  obtain ⟨v, rfl, _, x, rfl, rfl, _, Hend⟩ := he
  exact ⟨_, rfl, post_law (tb := 4) laidOut (fun t ht => by
    rw [Tryd.params6] at ht
    have ht : t = 43 ∨ t = 51 := by simpa using ht
    rcases ht with rfl | rfl <;> exact ⟨by kernel_rfl, by decide +kernel⟩) rfl ⟨rfl, rfl, rfl⟩ rfl Tryd.underlying4 hW' Hend.below⟩

theorem reads (os : Os) {H : Type} (enc : TypeId × Value → H) : ∃ places, DataW.whole enc Tryd.prog ((World.laidAll Tryd.prog os Rows.scriptTextRow.laid).forCall (fun _ _ => 0) ⟨#[], #[.agg #[.int .i64 0, .int .i64 0, .int .i64 0, .slice none 0 0], .agg #[.int .i64 0, .string ByteArray.empty, .string ByteArray.empty, .int .i64 0, .slice none 0 0]], []⟩).memory Tryd.f6.params.toList Rows.scriptTextSpec.vars false
    (#[.agg #[.int .i64 0, .int .i64 0, .int .i64 0, .slice none 0 0], .agg #[.int .i64 0, .string ByteArray.empty, .string ByteArray.empty, .int .i64 0, .slice none 0 0]] : Array Value).toList 8 = some ([.agg [.lit (.int .i64 0), .lit (.int .i64 0), .lit (.int .i64 0), .nil], .agg [.lit (.int .i64 0), .lit (.string []), .lit (.string []), .lit (.int .i64 0), .nil]], [], places) :=
  ⟨[], by kernel_rfl⟩

set_option maxRecDepth 100000 in
theorem lifted (pure : ∀ n1 n2 n3 l4 n7 s8 s9 n10 l11, Came n1 n2 n3 l4 n7 s8 s9 n10 l11 → ∃ N, F_dofferlaw36_ScriptText N n1 n2 n3 l4 n7 s8 s9 n10 l11 = some true) (os : Os) (started : os.Started) (H : Type) (enc : TypeId × Value → H) (F : Stop.Interp) :
    ReturnsInHanded {} Tryd.checked os 6 .any ((OpenSpec.ofChange Rows.scriptTextSpec).preRow enc Tryd.prog Tryd.f6 Rows.scriptTextRow.domain false Rows.scriptTextRow.laid) (((OpenSpec.ofChange Rows.scriptTextSpec).at F).post enc Tryd.prog Tryd.f6 false true false false) := by
  obtain ⟨places, hx⟩ := reads os enc
  refine returnsInHanded_of_row (C := Tryd.checked) (s := OpenSpec.ofChange Rows.scriptTextSpec) own started (by kernel_rfl) Tryd.func6
    (witness_row_atRef (enc := enc) (C := Tryd.checked) false (World.laidAll Tryd.prog os Rows.scriptTextRow.laid) #[.agg #[.int .i64 0, .int .i64 0, .int .i64 0, .slice none 0 0], .agg #[.int .i64 0, .string ByteArray.empty, .string ByteArray.empty, .int .i64 0, .slice none 0 0]] (World.laidAll_os _ _ _) (by kernel_rfl) (by kernel_rfl) (by kernel_rfl)
      (OpenSpec.preRow_of_cond 8 hx (by kernel_rfl) (fun k hk => by cases hk) (by kernel_rfl) (met os _))) ?_
  intro W base args ds gs before hval hW _ _ _ hL _ _
  exact contract pure H enc W base args ds gs before hval hW hL

theorem said (pure : ∀ n1 n2 n3 l4 n7 s8 s9 n10 l11, Came n1 n2 n3 l4 n7 s8 s9 n10 l11 → ∃ N, F_dofferlaw36_ScriptText N n1 n2 n3 l4 n7 s8 s9 n10 l11 = some true) : Rows.ScriptTextSaid :=
  OpenClaim.holds_of_cond 6 Tryd.f6 rfl rfl rfl rfl rfl rfl rfl ⟨rfl, rfl, rfl, rfl, rfl⟩ rfl rfl rfl rfl rfl (by kernel_rfl) Tryd.func6 (by kernel_rfl)
    (of_decide_eq_true (by kernel_rfl)) (by unfold Func.isWrapper; first | (rw [if_pos (by decide +kernel)]; kernel_rfl) | (rw [if_neg (by decide +kernel)]; exact ⟨rfl, rfl⟩))
    (fun os started H enc _ F => by rw [OpenClaim.pre_eq_preRow]; exact lifted pure os started H enc F)

theorem plain (f : FuncId) (fn : Func) (hf : Tryd.pinned.checked.prog.funcNamed "doffer/dofferlaw36.ScriptText" = some f) (hfn : Tryd.pinned.checked.prog.funcs[f]? = some fn) :
    true = Tryd.pinned.checked.prog.looks [] ∧ ∀ (j : Nat) t, fn.params[j]? = some t → Tryd.pinned.checked.prog.wantsStandIn t = false := by
  obtain rfl : f = 6 := Option.some.inj ((show Tryd.prog.funcNamed "doffer/dofferlaw36.ScriptText" = some 6 by kernel_rfl).symm.trans hf) |>.symm
  obtain rfl : fn = Tryd.f6 := (Option.some.inj (Tryd.func6.symm.trans hfn)).symm
  refine ⟨by kernel_rfl, fun j t ht => ?_⟩
  rw [Tryd.params6] at ht
  have ht : t = 43 ∨ t = 51 := by simpa using Array.mem_of_getElem? ht
  rcases ht with rfl | rfl
  · exact (show Tryd.prog.wantsStandIn 43 = false by kernel_rfl)
  · exact (show Tryd.prog.wantsStandIn 51 = false by kernel_rfl)

theorem card (pure : ∀ n1 n2 n3 l4 n7 s8 s9 n10 l11, Came n1 n2 n3 l4 n7 s8 s9 n10 l11 → ∃ N, F_dofferlaw36_ScriptText N n1 n2 n3 l4 n7 s8 s9 n10 l11 = some true) : Rows.ScriptTextCardSaid :=
  Claim7.holds_tied_plain_at .later [] _ _ _ _ (said pure) (fun _ h => by cases h) (by kernel_rfl) (fun _ h => by cases h) scriptText_row_tie rfl ⟨rfl, rfl⟩ (by kernel_rfl) rfl plain (by kernel_rfl)
end ScriptText
/-- THE CARD OF ScriptText -/
theorem ScriptText_proved : Rows.ScriptTextCardSaid := ScriptText.card fun n1 n2 n3 l4 n7 s8 s9 n10 l11 h => by
  obtain ⟨q1, q2, q3, q4⟩ := h.hArg0
  obtain ⟨p1, p2, p3, p4, p5⟩ := h.hArg1
  have r64 : ∀ x : Int, Go.Eng.InK .i64 x → -9223372036854775808 ≤ x ∧ x ≤ 9223372036854775807 := fun x hx => by
    simpa [Go.Eng.InK, IntKind.min, IntKind.max, IntKind.signed, IntKind.bits] using hx
  have r8 : ∀ l : List Int, (∀ x ∈ l, Go.Eng.InK .u8 x) → Bys l := fun l hl c hc => by
    have := hl c hc
    simp [Go.Eng.InK, IntKind.min, IntKind.max, IntKind.signed, IntKind.bits] at this
    omega
  refine ⟨4294967296, ?_⟩
  have := text_main (k := n1) (Nat.le_refl _) alive36 num_all (r8 _ q4.2) (bys_sby s8) (bys_sby s9) (r8 _ p5.2) (r64 _ q2) (r64 _ q3) (r64 _ p1) (r64 _ p4)
  rw [bstr_sby, bstr_sby] at this
  exact this
end Go.Proofs.YticipjjhbebegaaDoor
