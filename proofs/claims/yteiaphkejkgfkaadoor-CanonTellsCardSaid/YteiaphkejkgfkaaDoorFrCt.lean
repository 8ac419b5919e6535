/-
  THE CLAIM: the law, whatever the input, answers true and leaves its argument as it was. Conditions: the listed variable's tie (given).
-/
import Derived.Test.YteiaphkejkgfkaaDoorEngM
import Derived.Test.YteiaphkejkgfkaaDoorCtd
import Derived.Test.YteiaphkejkgfkaaDoorPlT20
import Derived.Test.YteiaphkejkgfkaaDoorCards
import Derived.Test.YteiaphkejkgfkaaDoorTie
import Derived.Deep.DeepHandedRow
import Derived.Deep.DeepWitnessRowRef
import Derived.LaidMore
import Derived.ProofKit
namespace Go.Proofs.YteiaphkejkgfkaaDoor
namespace CanonTells
open Go Go.Eng Go.ChangeShapes Go.WideShapes Go.ChangeAt Go.RowKit

set_option maxRecDepth 100000
theorem own : ownKnob Tryd.prog.godebug = none := by kernel_rfl
theorem laidOut : laidOutB Tryd.prog = true := by kernel_rfl
theorem glob : Tryd.prog.globalNamed "doffer/api.ErrRange" = some 0 := by kernel_rfl
theorem globType : ∃ t, (Tryd.prog.globals[0]?).map (·.type) = some t ∧ ∃ m, Tryd.prog.underlying t = some (.interface m) := ⟨63, by kernel_rfl, _, Tryd.underlying63⟩
theorem met (os : Os) (args : Array Value) : laidMetH Tryd.prog Rows.canonTellsRow.laid ((World.doorLaid Tryd.prog 400 os).forCall (fun _ _ => 0) ⟨#[], args, []⟩).memory :=
  laidMetH_of_parts3 (fuel := 8) (laidMet_of_run' 8 (by kernel_rfl) (by kernel_rfl)) (by kernel_rfl) (by kernel_rfl)
theorem errRange {W : World} (h : laidMetH Tryd.prog Rows.canonTellsRow.laid W) : ∃ v, GErr (hv W) 0 v := by
  rw [MakeChecks.laidMetH_plain _ _ _ (by kernel_rfl)] at h
  obtain ⟨t, h1, h2⟩ := globType
  exact gErr_of (nm := "*errors.errorString") (laid := Rows.canonTellsRow.laid) glob h1 h2 (List.mem_cons_self ..) h

/-! ### What the argument reads as -/
theorem rInt : Reads Tryd.prog 3 (eI .i64) (InK .i64) (fun _ => 1) := .int Tryd.underlying3 (by kernel_rfl)
theorem rInts : Reads Tryd.prog 23 (eL (eI .i64)) (fun l => l.length ≤ maxLen ∧ ∀ x ∈ l, InK .i64 x) (fun l => sumOf (fun _ => 1) l + 1) := rInt.slice Tryd.underlying23 (by kernel_rfl) (by decide)
theorem rRow : Reads Tryd.prog 58 (eA 256 (eI .i64)) (fun l => l.length = 256 ∧ ∀ x ∈ l, InK .i64 x) (fun l => sumOf (fun _ => 1) l + 1) := rInt.array Tryd.underlying58 (by kernel_rfl)
theorem rRows : Reads Tryd.prog 22 (eL (eA 256 (eI .i64))) (fun l => l.length ≤ maxLen ∧ ∀ x ∈ l, x.length = 256 ∧ ∀ y ∈ x, InK .i64 y) (fun l => sumOf (fun l => sumOf (fun _ => 1) l + 1) l + 1) := rRow.slice Tryd.underlying22 (by kernel_rfl) (by decide)
/-- what is known of an argument that came in -/
structure Came (rows : List (List Int)) (rule entry : List Int) : Prop where
  hRow : ∀ r ∈ rows, r.length = 256 ∧ ∀ x ∈ r, InK .i64 x
  hRule : ∀ x ∈ rule, InK .i64 x
  hEntry : ∀ x ∈ entry, InK .i64 x

theorem contract (pure : ∀ rows rule entry, Came rows rule entry → ∃ N, F_dofferlaw20_CanonTells N rows rule entry = some true)
    (H : Type) (enc : TypeId × Value → H) (W : World) (base : Nat) (args : Array Value) (ds gs : List (DataW H)) (before : List MemPlace)
    (hval : ∀ (j : Nat) t v, Tryd.f3.params[j]? = some t → args[j]? = some v → Value.okWide Tryd.prog W .any base t v)
    (hW : DataW.Whole enc Tryd.prog Tryd.f3.params.toList Rows.canonTellsSpec.vars false W args.toList ds gs before) (hL : laidMetH Tryd.prog Rows.canonTellsRow.laid W) :
    Calls Tryd.prog 3 args W fun e W' => ∃ v, e = .returned v ∧ Rows.canonTellsSpec.post enc Tryd.prog Tryd.f3 false true false false W args v W' := by
  have hW' := hW
  obtain ⟨p, q, hA0, hV, rfl, hfz, hnd⟩ := hW
  have hA : DataW.TrodAll enc Tryd.prog W 0 (fun _ => true) true Tryd.f3.params.toList args.toList ds p := hA0
  rw [Tryd.params3] at hA hval
  obtain ⟨v0, vs0, d0, ds0, p0, q0, hargs, rfl, rfl, h0, r0⟩ := trodAll_cons hA
  obtain ⟨rfl, rfl, rfl⟩ := trodAll_nil r0
  obtain rfl : args = #[v0] := by cases args; simp_all
  obtain ⟨rfl, rfl⟩ := trodVars_none hV
  obtain ⟨v1, v2, v3, y1, y2, y3, n, rfl, rfl, _, t1, t2, t3⟩ := Joins.open_agg3 Tryd.underlying25 (by kernel_rfl) (by kernel_rfl) (hval 0 25 v0 rfl rfl) h0
  obtain ⟨rows, ⟨_, e1, g1⟩, q1, b1⟩ := rRows.rd t1
  obtain ⟨rule, ⟨_, e2, g2⟩, q2, b2⟩ := rInts.rd t2
  obtain ⟨entry, ⟨_, e3, g3⟩, q3, b3⟩ := rInts.rd t3
  obtain rfl := (List.cons.inj e1).1
  obtain rfl := (List.cons.inj e2).1
  obtain rfl := (List.cons.inj e3).1
  have came : Came rows rule entry := by
    exact ⟨q1.2, q2.2, q3.2⟩
  obtain ⟨N, hF⟩ := pure rows rule entry came
  obtain ⟨ge, hge⟩ := errRange hL
  refine (c_3 (Hp.start W) hge g1 g2 g3 hF).mono fun e W' he => ?_
  obtain ⟨v, rfl, x, rfl, rfl, Hend⟩ := he
  exact ⟨_, rfl, post_law (tb := 4) laidOut (fun t ht => by
    rw [Tryd.params3] at ht
    obtain rfl : t = 25 := by simpa using ht
    exact ⟨by kernel_rfl, by decide +kernel⟩) rfl ⟨rfl, rfl, rfl⟩ rfl Tryd.underlying4 hW' Hend.below⟩

theorem reads (os : Os) {H : Type} (enc : TypeId × Value → H) : ∃ places, DataW.whole enc Tryd.prog ((World.doorLaid Tryd.prog 400 os).forCall (fun _ _ => 0) ⟨#[], #[.agg #[.slice none 0 0, .slice none 0 0, .slice none 0 0]], []⟩).memory Tryd.f3.params.toList Rows.canonTellsSpec.vars false
    #[Value.agg #[.slice none 0 0, .slice none 0 0, .slice none 0 0]].toList 8 = some ([.agg [.nil, .nil, .nil]], [], places) :=
  ⟨[], by kernel_rfl⟩

set_option maxRecDepth 100000 in
theorem lifted (pure : ∀ rows rule entry, Came rows rule entry → ∃ N, F_dofferlaw20_CanonTells N rows rule entry = some true) (os : Os) (started : os.Started) (H : Type) (enc : TypeId × Value → H) (F : Stop.Interp) :
    ReturnsInHanded {} Tryd.checked os 3 .any ((OpenSpec.ofChange Rows.canonTellsSpec).preRow enc Tryd.prog Tryd.f3 Rows.canonTellsRow.domain false Rows.canonTellsRow.laid) (((OpenSpec.ofChange Rows.canonTellsSpec).at F).post enc Tryd.prog Tryd.f3 false true false false) := by
  obtain ⟨places, hx⟩ := reads os enc
  refine returnsInHanded_of_row (C := Tryd.checked) (s := OpenSpec.ofChange Rows.canonTellsSpec) own started (by kernel_rfl) Tryd.func3
    (witness_row_atRef (enc := enc) (C := Tryd.checked) false (World.doorLaid Tryd.prog 400 os) #[.agg #[.slice none 0 0, .slice none 0 0, .slice none 0 0]] rfl (by kernel_rfl) (by kernel_rfl) (by kernel_rfl)
      (OpenSpec.preRow_of_cond 8 hx (by kernel_rfl) (fun k hk => by cases hk) (by kernel_rfl) (met os _))) ?_
  intro W base args ds gs before hval hW _ _ _ hL _ _
  exact contract pure H enc W base args ds gs before hval hW hL

theorem said (pure : ∀ rows rule entry, Came rows rule entry → ∃ N, F_dofferlaw20_CanonTells N rows rule entry = some true) : Rows.CanonTellsSaid :=
  OpenClaim.holds_of_cond 3 Tryd.f3 rfl rfl rfl rfl rfl rfl rfl ⟨rfl, rfl, rfl, rfl, rfl⟩ rfl rfl rfl rfl rfl (by kernel_rfl) Tryd.func3 (by kernel_rfl)
    (of_decide_eq_true (by kernel_rfl)) (by unfold Func.isWrapper; first | (rw [if_pos (by decide +kernel)]; kernel_rfl) | (rw [if_neg (by decide +kernel)]; exact ⟨rfl, rfl⟩))
    (fun os started H enc _ F => by rw [OpenClaim.pre_eq_preRow]; exact lifted pure os started H enc F)

theorem plain (f : FuncId) (fn : Func) (hf : Tryd.pinned.checked.prog.funcNamed "doffer/dofferlaw20.CanonTells" = some f) (hfn : Tryd.pinned.checked.prog.funcs[f]? = some fn) :
    false = Tryd.pinned.checked.prog.looks [] ∧ ∀ (j : Nat) t, fn.params[j]? = some t → Tryd.pinned.checked.prog.wantsStandIn t = false := by
  obtain rfl : f = 3 := Option.some.inj ((show Tryd.prog.funcNamed "doffer/dofferlaw20.CanonTells" = some 3 by kernel_rfl).symm.trans hf) |>.symm
  obtain rfl : fn = Tryd.f3 := (Option.some.inj (Tryd.func3.symm.trans hfn)).symm
  refine ⟨by kernel_rfl, fun j t ht => ?_⟩
  rw [Tryd.params3] at ht
  obtain rfl : t = 25 := by simpa using Array.mem_of_getElem? ht
  exact (show Tryd.prog.wantsStandIn 25 = false by kernel_rfl)

theorem card (pure : ∀ rows rule entry, Came rows rule entry → ∃ N, F_dofferlaw20_CanonTells N rows rule entry = some true) : Rows.CanonTellsCardSaid :=
  Claim7.holds_tied_plain_at .later [] _ _ _ _ (said pure) (fun _ h => by cases h) (by kernel_rfl) (fun _ h => by cases h) canonTells_row_tie rfl ⟨rfl, rfl⟩ (by kernel_rfl) rfl plain (by kernel_rfl)
end CanonTells
/-- THE CARD OF CanonTells -/
theorem CanonTells_proved : Rows.CanonTellsCardSaid := CanonTells.card fun rows rule entry h => ⟨_, canonTells_true fun r hr => (h.hRow r hr).1⟩
end Go.Proofs.YteiaphkejkgfkaaDoor
