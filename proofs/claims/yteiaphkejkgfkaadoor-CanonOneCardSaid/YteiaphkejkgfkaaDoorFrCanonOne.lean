/-
  THE CLAIM: the law, whatever the input, answers true and leaves its argument as it was. Conditions: the listed variable's tie (given).
-/
import Derived.Test.YteiaphkejkgfkaaDoorCanonOneE1
import Derived.Test.YteiaphkejkgfkaaDoorCanonOnec
import Derived.Test.YteiaphkejkgfkaaDoorCanonOneP2
import Derived.Test.YteiaphkejkgfkaaDoorCards
import Derived.Test.YteiaphkejkgfkaaDoorTie
import Derived.Deep.DeepHandedRow
import Derived.Deep.DeepWitnessRowRef
import Derived.LaidMore
import Derived.ProofKit
namespace Go.Proofs.YteiaphkejkgfkaaDoor
namespace CanonOne
open Go Go.Eng Go.ChangeShapes Go.WideShapes Go.ChangeAt Go.RowKit

set_option maxRecDepth 100000
theorem own : ownKnob Tryd.prog.godebug = none := by kernel_rfl
theorem laidOut : laidOutB Tryd.prog = true := by kernel_rfl
theorem glob : Tryd.prog.globalNamed "doffer/api.ErrRange" = some 0 := by kernel_rfl
theorem globType : ∃ t, (Tryd.prog.globals[0]?).map (·.type) = some t ∧ ∃ m, Tryd.prog.underlying t = some (.interface m) := ⟨63, by kernel_rfl, _, Tryd.underlying63⟩
theorem met (os : Os) (args : Array Value) : laidMetH Tryd.prog Rows.canonOneRow.laid ((World.doorLaid Tryd.prog 400 os).forCall (fun _ _ => 0) ⟨#[], args, []⟩).memory :=
  laidMetH_of_parts3 (fuel := 8) (laidMet_of_run' 8 (by kernel_rfl) (by kernel_rfl)) (by kernel_rfl) (by kernel_rfl)
theorem errRange {W : World} (h : laidMetH Tryd.prog Rows.canonOneRow.laid W) : ∃ v, GErr (hv W) 0 v := by
  rw [MakeChecks.laidMetH_plain _ _ _ (by kernel_rfl)] at h
  obtain ⟨t, h1, h2⟩ := globType
  exact gErr_of (nm := "*errors.errorString") (laid := Rows.canonOneRow.laid) glob h1 h2 (List.mem_cons_of_mem _ (List.mem_cons_self ..)) h

theorem globTab : Tryd.prog.globalNamed "math/bits.deBruijn64tab" = some 1 := by kernel_rfl
theorem table {W : World} (h : laidMetH Tryd.prog Rows.canonOneRow.laid W) : GTab (hv W) 1 .u8 tab_math_bits_deBruijn64tab := by
  rw [MakeChecks.laidMetH_plain _ _ _ (by kernel_rfl)] at h
  exact gTab_of (t := 115) (e := 5) (n := 64) (laid := Rows.canonOneRow.laid) globTab (by kernel_rfl) Tryd.underlying115 Tryd.underlying5 (by kernel_rfl) (by kernel_rfl) (List.mem_cons_self ..) h

/-! ### What the argument reads as -/
theorem rInt : Reads Tryd.prog 3 (eI .i64) (InK .i64) (fun _ => 1) := .int Tryd.underlying3 (by kernel_rfl)
theorem rInts : Reads Tryd.prog 23 (eL (eI .i64)) (fun l => l.length ≤ maxLen ∧ ∀ x ∈ l, InK .i64 x) (fun l => sumOf (fun _ => 1) l + 1) := rInt.slice Tryd.underlying23 (by kernel_rfl) (by decide)
theorem rRow : Reads Tryd.prog 58 (eA 256 (eI .i64)) (fun l => l.length = 256 ∧ ∀ x ∈ l, InK .i64 x) (fun l => sumOf (fun _ => 1) l + 1) := rInt.array Tryd.underlying58 (by kernel_rfl)
theorem rRows : Reads Tryd.prog 22 (eL (eA 256 (eI .i64))) (fun l => l.length ≤ maxLen ∧ ∀ x ∈ l, x.length = 256 ∧ ∀ y ∈ x, InK .i64 y) (fun l => sumOf (fun l => sumOf (fun _ => 1) l + 1) l + 1) := rRow.slice Tryd.underlying22 (by kernel_rfl) (by decide)
/-- what is known of the arguments that came in -/
structure Came (rows0 : List (List Int)) (rule0 : List Int) (entry0 : List Int) (n1 : Int) : Prop where
  hRow0 : ∀ r ∈ rows0, r.length = 256 ∧ ∀ x ∈ r, InK .i64 x
  hRule0 : ∀ x ∈ rule0, InK .i64 x
  hEntry0 : ∀ x ∈ entry0, InK .i64 x
  hInt1 : InK .i64 n1

theorem contract (pure : ∀ rows0 rule0 entry0 n1, Came rows0 rule0 entry0 n1 → ∃ N, F_dofferlaw20_CanonOne N rows0 rule0 entry0 n1 = some true)
    (H : Type) (enc : TypeId × Value → H) (W : World) (base : Nat) (args : Array Value) (ds gs : List (DataW H)) (before : List MemPlace)
    (hval : ∀ (j : Nat) t v, Tryd.f12.params[j]? = some t → args[j]? = some v → Value.okWide Tryd.prog W .any base t v)
    (hW : DataW.Whole enc Tryd.prog Tryd.f12.params.toList Rows.canonOneSpec.vars false W args.toList ds gs before) (hL : laidMetH Tryd.prog Rows.canonOneRow.laid W) :
    Calls Tryd.prog 12 args W fun e W' => ∃ v, e = .returned v ∧ Rows.canonOneSpec.post enc Tryd.prog Tryd.f12 false true false false W args v W' := by
  have hW' := hW
  obtain ⟨p, q, hA0, hV, rfl, hfz, hnd⟩ := hW
  have hA : DataW.TrodAll enc Tryd.prog W 0 (fun _ => true) true Tryd.f12.params.toList args.toList ds p := hA0
  rw [Tryd.params12] at hA hval
  obtain ⟨v0, vs0, d0, ds0, p0, q0, hv0, rfl, rfl, h0, r0⟩ := trodAll_cons hA
  obtain ⟨v1, vs1, d1, ds1, p1, q1, hv1, rfl, rfl, h1, r1⟩ := trodAll_cons r0
  subst hv1
  obtain ⟨rfl, rfl, rfl⟩ := trodAll_nil r1
  obtain rfl : args = #[v0, v1] := by cases args; simp_all
  obtain ⟨rfl, rfl⟩ := trodVars_none hV
  obtain ⟨u01, u02, u03, y01, y02, y03, m0, rfl, rfl, _, t01, t02, t03⟩ := Joins.open_agg3 Tryd.underlying25 (by kernel_rfl) (by kernel_rfl) (hval 0 25 v0 rfl rfl) h0
  obtain ⟨rows0, ⟨_, e00, g00⟩, w00, _⟩ := rRows.rd t01
  obtain rfl := (List.cons.inj e00).1
  obtain ⟨rule0, ⟨_, e01, g01⟩, w01, _⟩ := rInts.rd t02
  obtain rfl := (List.cons.inj e01).1
  obtain ⟨entry0, ⟨_, e02, g02⟩, w02, _⟩ := rInts.rd t03
  obtain rfl := (List.cons.inj e02).1
  obtain ⟨n1, rfl⟩ := WideShapes.okWide_int Tryd.underlying3 (hval 1 3 v1 rfl rfl)
  obtain ⟨_, h1⟩ := h1
  obtain ⟨n1', e1, w1, _⟩ := rInt.rd h1
  obtain rfl : n1 = n1' := by have := (List.cons.inj e1).1; injection this
  obtain ⟨N, hF⟩ := pure _ _ _ _ ⟨w00.2, w01.2, w02.2, w1⟩
  obtain ⟨ge0, hge0⟩ := errRange hL
  refine (c_12 (Hp.start W) hge0 (table hL) g00 g01 g02 hF).mono fun e W' he => ?_
  obtain ⟨v, rfl, x, rfl, rfl, Hend⟩ := he
  exact ⟨_, rfl, post_law (tb := 4) laidOut (fun t ht => by
    rw [Tryd.params12] at ht
    have ht : t = 25 ∨ t = 3 := by simpa using ht
    rcases ht with rfl | rfl <;> exact ⟨by kernel_rfl, by decide +kernel⟩) rfl ⟨rfl, rfl, rfl⟩ rfl Tryd.underlying4 hW' Hend.below⟩

theorem reads (os : Os) {H : Type} (enc : TypeId × Value → H) : ∃ places, DataW.whole enc Tryd.prog ((World.doorLaid Tryd.prog 400 os).forCall (fun _ _ => 0) ⟨#[], #[.agg #[.slice none 0 0, .slice none 0 0, .slice none 0 0], .int .i64 0], []⟩).memory Tryd.f12.params.toList Rows.canonOneSpec.vars false
    (#[.agg #[.slice none 0 0, .slice none 0 0, .slice none 0 0], .int .i64 0] : Array Value).toList 8 = some ([.agg [.nil, .nil, .nil], .lit (.int .i64 0)], [], places) :=
  ⟨[], by kernel_rfl⟩

set_option maxRecDepth 100000 in
theorem lifted (pure : ∀ rows0 rule0 entry0 n1, Came rows0 rule0 entry0 n1 → ∃ N, F_dofferlaw20_CanonOne N rows0 rule0 entry0 n1 = some true) (os : Os) (started : os.Started) (H : Type) (enc : TypeId × Value → H) (F : Stop.Interp) :
    ReturnsInHanded {} Tryd.checked os 12 .any ((OpenSpec.ofChange Rows.canonOneSpec).preRow enc Tryd.prog Tryd.f12 Rows.canonOneRow.domain false Rows.canonOneRow.laid) (((OpenSpec.ofChange Rows.canonOneSpec).at F).post enc Tryd.prog Tryd.f12 false true false false) := by
  obtain ⟨places, hx⟩ := reads os enc
  refine returnsInHanded_of_row (C := Tryd.checked) (s := OpenSpec.ofChange Rows.canonOneSpec) own started (by kernel_rfl) Tryd.func12
    (witness_row_atRef (enc := enc) (C := Tryd.checked) false (World.doorLaid Tryd.prog 400 os) #[.agg #[.slice none 0 0, .slice none 0 0, .slice none 0 0], .int .i64 0] rfl (by kernel_rfl) (by kernel_rfl) (by kernel_rfl)
      (OpenSpec.preRow_of_cond 8 hx (by kernel_rfl) (fun k hk => by cases hk) (by kernel_rfl) (met os _))) ?_
  intro W base args ds gs before hval hW _ _ _ hL _ _
  exact contract pure H enc W base args ds gs before hval hW hL

theorem said (pure : ∀ rows0 rule0 entry0 n1, Came rows0 rule0 entry0 n1 → ∃ N, F_dofferlaw20_CanonOne N rows0 rule0 entry0 n1 = some true) : Rows.CanonOneSaid :=
  OpenClaim.holds_of_cond 12 Tryd.f12 rfl rfl rfl rfl rfl rfl rfl ⟨rfl, rfl, rfl, rfl, rfl⟩ rfl rfl rfl rfl rfl (by kernel_rfl) Tryd.func12 (by kernel_rfl)
    (of_decide_eq_true (by kernel_rfl)) (by unfold Func.isWrapper; first | (rw [if_pos (by decide +kernel)]; kernel_rfl) | (rw [if_neg (by decide +kernel)]; exact ⟨rfl, rfl⟩))
    (fun os started H enc _ F => by rw [OpenClaim.pre_eq_preRow]; exact lifted pure os started H enc F)

theorem plain (f : FuncId) (fn : Func) (hf : Tryd.pinned.checked.prog.funcNamed "doffer/dofferlaw20.CanonOne" = some f) (hfn : Tryd.pinned.checked.prog.funcs[f]? = some fn) :
    false = Tryd.pinned.checked.prog.looks [] ∧ ∀ (j : Nat) t, fn.params[j]? = some t → Tryd.pinned.checked.prog.wantsStandIn t = false := by
  obtain rfl : f = 12 := Option.some.inj ((show Tryd.prog.funcNamed "doffer/dofferlaw20.CanonOne" = some 12 by kernel_rfl).symm.trans hf) |>.symm
  obtain rfl : fn = Tryd.f12 := (Option.some.inj (Tryd.func12.symm.trans hfn)).symm
  refine ⟨by kernel_rfl, fun j t ht => ?_⟩
  rw [Tryd.params12] at ht
  have ht : t = 25 ∨ t = 3 := by simpa using Array.mem_of_getElem? ht
  rcases ht with rfl | rfl
  · exact (show Tryd.prog.wantsStandIn 25 = false by kernel_rfl)
  · exact (show Tryd.prog.wantsStandIn 3 = false by kernel_rfl)

theorem card (pure : ∀ rows0 rule0 entry0 n1, Came rows0 rule0 entry0 n1 → ∃ N, F_dofferlaw20_CanonOne N rows0 rule0 entry0 n1 = some true) : Rows.CanonOneCardSaid :=
  Claim7.holds_tied_plain_at .later [] _ _ _ _ (said pure) (fun _ h => by cases h) (by kernel_rfl) (fun _ h => by cases h) canonOne_row_tie rfl ⟨rfl, rfl⟩ (by kernel_rfl) rfl plain (by kernel_rfl)
end CanonOne
/-- THE CARD OF CanonOne -/
theorem CanonOne_proved : Rows.CanonOneCardSaid := CanonOne.card fun rows0 rule0 entry0 n1 h => by
  refine ⟨4294967296, canonOne_true (fun r hr => (h.hRow0 r hr).1)⟩
end Go.Proofs.YteiaphkejkgfkaaDoor
