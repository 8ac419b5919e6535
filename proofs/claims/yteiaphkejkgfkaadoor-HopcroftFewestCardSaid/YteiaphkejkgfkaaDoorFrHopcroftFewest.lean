/-
  THE CLAIM: the law, whatever the input, answers true and leaves its argument as it was. Conditions: the listed variable's tie (given).
-/
import Derived.Test.YteiaphkejkgfkaaDoorHopcroftFewestE1
import Derived.Test.YteiaphkejkgfkaaDoorHopcroftFewestc
import Derived.Test.YteiaphkejkgfkaaDoorHopcroftFewestP2
import Derived.Test.YteiaphkejkgfkaaDoorCards
import Derived.Test.YteiaphkejkgfkaaDoorTie
import Derived.Deep.DeepHandedRow
import Derived.Deep.DeepWitnessRowRef
import Derived.LaidMore
import Derived.ProofKit
namespace Go.Proofs.YteiaphkejkgfkaaDoor
namespace HopcroftFewest
open Go Go.Eng Go.ChangeShapes Go.WideShapes Go.ChangeAt Go.RowKit

set_option maxRecDepth 100000
theorem own : ownKnob Tryd.prog.godebug = none := by kernel_rfl
theorem laidOut : laidOutB Tryd.prog = true := by kernel_rfl
theorem glob : Tryd.prog.globalNamed "doffer/api.ErrRange" = some 0 := by kernel_rfl
theorem globType : ∃ t, (Tryd.prog.globals[0]?).map (·.type) = some t ∧ ∃ m, Tryd.prog.underlying t = some (.interface m) := ⟨63, by kernel_rfl, _, Tryd.underlying63⟩
theorem met (os : Os) (args : Array Value) : laidMetH Tryd.prog Rows.hopcroftFewestRow.laid ((World.doorLaid Tryd.prog 400 os).forCall (fun _ _ => 0) ⟨#[], args, []⟩).memory :=
  laidMetH_of_parts3 (fuel := 8) (laidMet_of_run' 8 (by kernel_rfl) (by kernel_rfl)) (by kernel_rfl) (by kernel_rfl)
theorem errRange {W : World} (h : laidMetH Tryd.prog Rows.hopcroftFewestRow.laid W) : ∃ v, GErr (hv W) 0 v := by
  rw [MakeChecks.laidMetH_plain _ _ _ (by kernel_rfl)] at h
  obtain ⟨t, h1, h2⟩ := globType
  exact gErr_of (nm := "*errors.errorString") (laid := Rows.hopcroftFewestRow.laid) glob h1 h2 (List.mem_cons_of_mem _ (List.mem_cons_self ..)) h

theorem globTab : Tryd.prog.globalNamed "math/bits.deBruijn64tab" = some 1 := by kernel_rfl
theorem table {W : World} (h : laidMetH Tryd.prog Rows.hopcroftFewestRow.laid W) : GTab (hv W) 1 .u8 tab_math_bits_deBruijn64tab := by
  rw [MakeChecks.laidMetH_plain _ _ _ (by kernel_rfl)] at h
  exact gTab_of (t := 115) (e := 5) (n := 64) (laid := Rows.hopcroftFewestRow.laid) globTab (by kernel_rfl) Tryd.underlying115 Tryd.underlying5 (by kernel_rfl) (by kernel_rfl) (List.mem_cons_self ..) h

/-! ### What the argument reads as -/
theorem rInt : Reads Tryd.prog 3 (eI .i64) (InK .i64) (fun _ => 1) := .int Tryd.underlying3 (by kernel_rfl)
theorem rInts : Reads Tryd.prog 23 (eL (eI .i64)) (fun l => l.length ≤ maxLen ∧ ∀ x ∈ l, InK .i64 x) (fun l => sumOf (fun _ => 1) l + 1) := rInt.slice Tryd.underlying23 (by kernel_rfl) (by decide)
theorem rRow : Reads Tryd.prog 58 (eA 256 (eI .i64)) (fun l => l.length = 256 ∧ ∀ x ∈ l, InK .i64 x) (fun l => sumOf (fun _ => 1) l + 1) := rInt.array Tryd.underlying58 (by kernel_rfl)
theorem rRows : Reads Tryd.prog 22 (eL (eA 256 (eI .i64))) (fun l => l.length ≤ maxLen ∧ ∀ x ∈ l, x.length = 256 ∧ ∀ y ∈ x, InK .i64 y) (fun l => sumOf (fun l => sumOf (fun _ => 1) l + 1) l + 1) := rRow.slice Tryd.underlying22 (by kernel_rfl) (by decide)
theorem rByte : Reads Tryd.prog 5 (eI .u8) (InK .u8) (fun _ => 1) := .int Tryd.underlying5 (by kernel_rfl)
theorem rBytes : Reads Tryd.prog 42 (eL (eI .u8)) (fun l => l.length ≤ maxLen ∧ ∀ x ∈ l, InK .u8 x) (fun l => sumOf (fun _ => 1) l + 1) := rByte.slice Tryd.underlying42 (by kernel_rfl) (by decide)
theorem inK_u8 {c : Int} (h : InK .u8 c) : 0 ≤ c ∧ c < 256 := by
  simp [InK, IntKind.min, IntKind.max, IntKind.signed, IntKind.bits] at h
  omega
/-- what is known of the arguments that came in -/
structure Came (rows0 : List (List Int)) (rule0 : List Int) (entry0 : List Int) (text1 : List Int) (n2 : Int) : Prop where
  hRow0 : ∀ r ∈ rows0, r.length = 256 ∧ ∀ x ∈ r, InK .i64 x
  hRule0 : ∀ x ∈ rule0, InK .i64 x
  hEntry0 : ∀ x ∈ entry0, InK .i64 x
  hText1 : ∀ x ∈ text1, InK .u8 x
  hInt2 : InK .i64 n2

theorem contract (pure : ∀ rows0 rule0 entry0 text1 n2, Came rows0 rule0 entry0 text1 n2 → ∃ N, F_dofferlaw19_HopcroftFewest N rows0 rule0 entry0 text1 n2 = some true)
    (H : Type) (enc : TypeId × Value → H) (W : World) (base : Nat) (args : Array Value) (ds gs : List (DataW H)) (before : List MemPlace)
    (hval : ∀ (j : Nat) t v, Tryd.f13.params[j]? = some t → args[j]? = some v → Value.okWide Tryd.prog W .any base t v)
    (hW : DataW.Whole enc Tryd.prog Tryd.f13.params.toList Rows.hopcroftFewestSpec.vars false W args.toList ds gs before) (hL : laidMetH Tryd.prog Rows.hopcroftFewestRow.laid W) :
    Calls Tryd.prog 13 args W fun e W' => ∃ v, e = .returned v ∧ Rows.hopcroftFewestSpec.post enc Tryd.prog Tryd.f13 false true false false W args v W' := by
  have hW' := hW
  obtain ⟨p, q, hA0, hV, rfl, hfz, hnd⟩ := hW
  have hA : DataW.TrodAll enc Tryd.prog W 0 (fun _ => true) true Tryd.f13.params.toList args.toList ds p := hA0
  rw [Tryd.params13] at hA hval
  obtain ⟨v0, vs0, d0, ds0, p0, q0, hv0, rfl, rfl, h0, r0⟩ := trodAll_cons hA
  obtain ⟨v1, vs1, d1, ds1, p1, q1, hv1, rfl, rfl, h1, r1⟩ := trodAll_cons r0
  subst hv1
  obtain ⟨v2, vs2, d2, ds2, p2, q2, hv2, rfl, rfl, h2, r2⟩ := trodAll_cons r1
  subst hv2
  obtain ⟨rfl, rfl, rfl⟩ := trodAll_nil r2
  obtain rfl : args = #[v0, v1, v2] := by cases args; simp_all
  obtain ⟨rfl, rfl⟩ := trodVars_none hV
  obtain ⟨u01, u02, u03, y01, y02, y03, m0, rfl, rfl, _, t01, t02, t03⟩ := Joins.open_agg3 Tryd.underlying25 (by kernel_rfl) (by kernel_rfl) (hval 0 25 v0 rfl rfl) h0
  obtain ⟨rows0, ⟨_, e00, g00⟩, w00, _⟩ := rRows.rd t01
  obtain rfl := (List.cons.inj e00).1
  obtain ⟨rule0, ⟨_, e01, g01⟩, w01, _⟩ := rInts.rd t02
  obtain rfl := (List.cons.inj e01).1
  obtain ⟨entry0, ⟨_, e02, g02⟩, w02, _⟩ := rInts.rd t03
  obtain rfl := (List.cons.inj e02).1
  obtain ⟨a1, l1, c1, rfl⟩ := WideShapes.okWide_slice Tryd.underlying42 (hval 1 42 v1 rfl rfl)
  obtain ⟨_, h1⟩ := h1
  obtain ⟨text1, ⟨_, e1, g1⟩, w1, _⟩ := rBytes.rd h1
  obtain rfl := (List.cons.inj e1).1
  obtain ⟨n2, rfl⟩ := WideShapes.okWide_int Tryd.underlying3 (hval 2 3 v2 rfl rfl)
  obtain ⟨_, h2⟩ := h2
  obtain ⟨n2', e2, w2, _⟩ := rInt.rd h2
  obtain rfl : n2 = n2' := by have := (List.cons.inj e2).1; injection this
  obtain ⟨N, hF⟩ := pure _ _ _ _ _ ⟨w00.2, w01.2, w02.2, w1.2, w2⟩
  obtain ⟨ge0, hge0⟩ := errRange hL
  refine (c_13 (Hp.start W) hge0 (table hL) g00 g01 g02 g1 hF).mono fun e W' he => ?_
  obtain ⟨v, rfl, _, x, rfl, rfl, _, Hend⟩ := he
  exact ⟨_, rfl, post_law (tb := 4) laidOut (fun t ht => by
    rw [Tryd.params13] at ht
    have ht : t = 25 ∨ t = 42 ∨ t = 3 := by simpa using ht
    rcases ht with rfl | rfl | rfl <;> exact ⟨by kernel_rfl, by decide +kernel⟩) rfl ⟨rfl, rfl, rfl⟩ rfl Tryd.underlying4 hW' Hend.below⟩

theorem reads (os : Os) {H : Type} (enc : TypeId × Value → H) : ∃ places, DataW.whole enc Tryd.prog ((World.doorLaid Tryd.prog 400 os).forCall (fun _ _ => 0) ⟨#[], #[.agg #[.slice none 0 0, .slice none 0 0, .slice none 0 0], .slice none 0 0, .int .i64 0], []⟩).memory Tryd.f13.params.toList Rows.hopcroftFewestSpec.vars false
    (#[.agg #[.slice none 0 0, .slice none 0 0, .slice none 0 0], .slice none 0 0, .int .i64 0] : Array Value).toList 8 = some ([.agg [.nil, .nil, .nil], .nil, .lit (.int .i64 0)], [], places) :=
  ⟨[], by kernel_rfl⟩

set_option maxRecDepth 100000 in
theorem lifted (pure : ∀ rows0 rule0 entry0 text1 n2, Came rows0 rule0 entry0 text1 n2 → ∃ N, F_dofferlaw19_HopcroftFewest N rows0 rule0 entry0 text1 n2 = some true) (os : Os) (started : os.Started) (H : Type) (enc : TypeId × Value → H) (F : Stop.Interp) :
    ReturnsInHanded {} Tryd.checked os 13 .any ((OpenSpec.ofChange Rows.hopcroftFewestSpec).preRow enc Tryd.prog Tryd.f13 Rows.hopcroftFewestRow.domain false Rows.hopcroftFewestRow.laid) (((OpenSpec.ofChange Rows.hopcroftFewestSpec).at F).post enc Tryd.prog Tryd.f13 false true false false) := by
  obtain ⟨places, hx⟩ := reads os enc
  refine returnsInHanded_of_row (C := Tryd.checked) (s := OpenSpec.ofChange Rows.hopcroftFewestSpec) own started (by kernel_rfl) Tryd.func13
    (witness_row_atRef (enc := enc) (C := Tryd.checked) false (World.doorLaid Tryd.prog 400 os) #[.agg #[.slice none 0 0, .slice none 0 0, .slice none 0 0], .slice none 0 0, .int .i64 0] rfl (by kernel_rfl) (by kernel_rfl) (by kernel_rfl)
      (OpenSpec.preRow_of_cond 8 hx (by kernel_rfl) (fun k hk => by cases hk) (by kernel_rfl) (met os _))) ?_
  intro W base args ds gs before hval hW _ _ _ hL _ _
  exact contract pure H enc W base args ds gs before hval hW hL

theorem said (pure : ∀ rows0 rule0 entry0 text1 n2, Came rows0 rule0 entry0 text1 n2 → ∃ N, F_dofferlaw19_HopcroftFewest N rows0 rule0 entry0 text1 n2 = some true) : Rows.HopcroftFewestSaid :=
  OpenClaim.holds_of_cond 13 Tryd.f13 rfl rfl rfl rfl rfl rfl rfl ⟨rfl, rfl, rfl, rfl, rfl⟩ rfl rfl rfl rfl rfl (by kernel_rfl) Tryd.func13 (by kernel_rfl)
    (of_decide_eq_true (by kernel_rfl)) (by unfold Func.isWrapper; first | (rw [if_pos (by decide +kernel)]; kernel_rfl) | (rw [if_neg (by decide +kernel)]; exact ⟨rfl, rfl⟩))
    (fun os started H enc _ F => by rw [OpenClaim.pre_eq_preRow]; exact lifted pure os started H enc F)

theorem plain (f : FuncId) (fn : Func) (hf : Tryd.pinned.checked.prog.funcNamed "doffer/dofferlaw19.HopcroftFewest" = some f) (hfn : Tryd.pinned.checked.prog.funcs[f]? = some fn) :
    false = Tryd.pinned.checked.prog.looks [] ∧ ∀ (j : Nat) t, fn.params[j]? = some t → Tryd.pinned.checked.prog.wantsStandIn t = false := by
  obtain rfl : f = 13 := Option.some.inj ((show Tryd.prog.funcNamed "doffer/dofferlaw19.HopcroftFewest" = some 13 by kernel_rfl).symm.trans hf) |>.symm
  obtain rfl : fn = Tryd.f13 := (Option.some.inj (Tryd.func13.symm.trans hfn)).symm
  refine ⟨by kernel_rfl, fun j t ht => ?_⟩
  rw [Tryd.params13] at ht
  have ht : t = 25 ∨ t = 42 ∨ t = 3 := by simpa using Array.mem_of_getElem? ht
  rcases ht with rfl | rfl | rfl
  · exact (show Tryd.prog.wantsStandIn 25 = false by kernel_rfl)
  · exact (show Tryd.prog.wantsStandIn 42 = false by kernel_rfl)
  · exact (show Tryd.prog.wantsStandIn 3 = false by kernel_rfl)

theorem card (pure : ∀ rows0 rule0 entry0 text1 n2, Came rows0 rule0 entry0 text1 n2 → ∃ N, F_dofferlaw19_HopcroftFewest N rows0 rule0 entry0 text1 n2 = some true) : Rows.HopcroftFewestCardSaid :=
  Claim7.holds_tied_plain_at .later [] _ _ _ _ (said pure) (fun _ h => by cases h) (by kernel_rfl) (fun _ h => by cases h) hopcroftFewest_row_tie rfl ⟨rfl, rfl⟩ (by kernel_rfl) rfl plain (by kernel_rfl)
end HopcroftFewest
/-- THE CARD OF HopcroftFewest -/
theorem HopcroftFewest_proved : Rows.HopcroftFewestCardSaid := HopcroftFewest.card fun rows0 rule0 entry0 text1 n2 h => by
  refine ⟨4294967296, hopcroftFewest_true (fun r hr => (h.hRow0 r hr).1) (fun c hc => HopcroftFewest.inK_u8 (h.hText1 c hc))⟩
end Go.Proofs.YteiaphkejkgfkaaDoor
