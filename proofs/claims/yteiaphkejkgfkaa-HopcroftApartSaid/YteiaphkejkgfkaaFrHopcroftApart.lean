/-
  THE CLAIM: the law, whatever the input, answers true and leaves its argument as it was. Conditions: none.
-/
import Derived.Test.YteiaphkejkgfkaaHopcroftApartE1
import Derived.Test.YteiaphkejkgfkaaHopcroftApartb
import Derived.Test.YteiaphkejkgfkaaHopcroftApartP1
import Derived.Deep.DeepHandedRow
import Derived.Deep.DeepWitnessRowRef
import Derived.LaidMore
import Derived.ProofKit
namespace Go.Proofs.Yteiaphkejkgfkaa
namespace HopcroftApart
open Go Go.Eng Go.ChangeShapes Go.WideShapes Go.ChangeAt Go.RowKit

set_option maxRecDepth 100000
theorem own : ownKnob Try.prog.godebug = none := by kernel_rfl
theorem laidOut : laidOutB Try.prog = true := by kernel_rfl
theorem met (os : Os) (args : Array Value) : laidMetH Try.prog Rows.hopcroftApartRow.laid ((World.doorLaid Try.prog 400 os).forCall (fun _ _ => 0) ⟨#[], args, []⟩).memory :=
  laidMetH_of_parts3 (fuel := 8) (laidMet_of_run' 8 (by kernel_rfl) (by kernel_rfl)) (by kernel_rfl) (by kernel_rfl)
/-! ### What the argument reads as -/
theorem rInt : Reads Try.prog 3 (eI .i64) (InK .i64) (fun _ => 1) := .int Try.underlying3 (by kernel_rfl)
theorem rInts : Reads Try.prog 23 (eL (eI .i64)) (fun l => l.length ≤ maxLen ∧ ∀ x ∈ l, InK .i64 x) (fun l => sumOf (fun _ => 1) l + 1) := rInt.slice Try.underlying23 (by kernel_rfl) (by decide)
theorem rRow : Reads Try.prog 42 (eA 256 (eI .i64)) (fun l => l.length = 256 ∧ ∀ x ∈ l, InK .i64 x) (fun l => sumOf (fun _ => 1) l + 1) := rInt.array Try.underlying42 (by kernel_rfl)
theorem rRows : Reads Try.prog 22 (eL (eA 256 (eI .i64))) (fun l => l.length ≤ maxLen ∧ ∀ x ∈ l, x.length = 256 ∧ ∀ y ∈ x, InK .i64 y) (fun l => sumOf (fun l => sumOf (fun _ => 1) l + 1) l + 1) := rRow.slice Try.underlying22 (by kernel_rfl) (by decide)
/-- what is known of the arguments that came in -/
structure Came (rows0 : List (List Int)) (rule0 : List Int) (entry0 : List Int) (n1 : Int) (n2 : Int) : Prop where
  hRow0 : ∀ r ∈ rows0, r.length = 256 ∧ ∀ x ∈ r, InK .i64 x
  hRule0 : ∀ x ∈ rule0, InK .i64 x
  hEntry0 : ∀ x ∈ entry0, InK .i64 x
  hInt1 : InK .i64 n1
  hInt2 : InK .i64 n2

theorem contract (pure : ∀ rows0 rule0 entry0 n1 n2, Came rows0 rule0 entry0 n1 n2 → ∃ N, F_dofferlaw19_HopcroftApart N rows0 rule0 entry0 n1 n2 = some true)
    (H : Type) (enc : TypeId × Value → H) (W : World) (base : Nat) (args : Array Value) (ds gs : List (DataW H)) (before : List MemPlace)
    (hval : ∀ (j : Nat) t v, Try.f3.params[j]? = some t → args[j]? = some v → Value.okWide Try.prog W .any base t v)
    (hW : DataW.Whole enc Try.prog Try.f3.params.toList Rows.hopcroftApartSpec.vars false W args.toList ds gs before) (hL : laidMetH Try.prog Rows.hopcroftApartRow.laid W) :
    Calls Try.prog 3 args W fun e W' => ∃ v, e = .returned v ∧ Rows.hopcroftApartSpec.post enc Try.prog Try.f3 false true false false W args v W' := by
  have hW' := hW
  obtain ⟨p, q, hA0, hV, rfl, hfz, hnd⟩ := hW
  have hA : DataW.TrodAll enc Try.prog W 0 (fun _ => true) true Try.f3.params.toList args.toList ds p := hA0
  rw [Try.params3] at hA hval
  obtain ⟨v0, vs0, d0, ds0, p0, q0, hv0, rfl, rfl, h0, r0⟩ := trodAll_cons hA
  obtain ⟨v1, vs1, d1, ds1, p1, q1, hv1, rfl, rfl, h1, r1⟩ := trodAll_cons r0
  subst hv1
  obtain ⟨v2, vs2, d2, ds2, p2, q2, hv2, rfl, rfl, h2, r2⟩ := trodAll_cons r1
  subst hv2
  obtain ⟨rfl, rfl, rfl⟩ := trodAll_nil r2
  obtain rfl : args = #[v0, v1, v2] := by cases args; simp_all
  obtain ⟨rfl, rfl⟩ := trodVars_none hV
  obtain ⟨u01, u02, u03, y01, y02, y03, m0, rfl, rfl, _, t01, t02, t03⟩ := Joins.open_agg3 Try.underlying25 (by kernel_rfl) (by kernel_rfl) (hval 0 25 v0 rfl rfl) h0
  obtain ⟨rows0, ⟨_, e00, g00⟩, w00, _⟩ := rRows.rd t01
  obtain rfl := (List.cons.inj e00).1
  obtain ⟨rule0, ⟨_, e01, g01⟩, w01, _⟩ := rInts.rd t02
  obtain rfl := (List.cons.inj e01).1
  obtain ⟨entry0, ⟨_, e02, g02⟩, w02, _⟩ := rInts.rd t03
  obtain rfl := (List.cons.inj e02).1
  obtain ⟨n1, rfl⟩ := WideShapes.okWide_int Try.underlying3 (hval 1 3 v1 rfl rfl)
  obtain ⟨_, h1⟩ := h1
  obtain ⟨n1', e1, w1, _⟩ := rInt.rd h1
  obtain rfl : n1 = n1' := by have := (List.cons.inj e1).1; injection this
  obtain ⟨n2, rfl⟩ := WideShapes.okWide_int Try.underlying3 (hval 2 3 v2 rfl rfl)
  obtain ⟨_, h2⟩ := h2
  obtain ⟨n2', e2, w2, _⟩ := rInt.rd h2
  obtain rfl : n2 = n2' := by have := (List.cons.inj e2).1; injection this
  obtain ⟨N, hF⟩ := pure _ _ _ _ _ ⟨w00.2, w01.2, w02.2, w1, w2⟩
  refine (c_3 (Hp.start W) g00 g01 g02 hF).mono fun e W' he => ?_
  obtain ⟨v, rfl, _, x, rfl, rfl, _, Hend⟩ := he
  exact ⟨_, rfl, post_law (tb := 4) laidOut (fun t ht => by
    rw [Try.params3] at ht
    have ht : t = 25 ∨ t = 3 := by simpa using ht
    rcases ht with rfl | rfl <;> exact ⟨by kernel_rfl, by decide +kernel⟩) rfl ⟨rfl, rfl, rfl⟩ rfl Try.underlying4 hW' Hend.below⟩

theorem reads (os : Os) {H : Type} (enc : TypeId × Value → H) : ∃ places, DataW.whole enc Try.prog ((World.doorLaid Try.prog 400 os).forCall (fun _ _ => 0) ⟨#[], #[.agg #[.slice none 0 0, .slice none 0 0, .slice none 0 0], .int .i64 0, .int .i64 0], []⟩).memory Try.f3.params.toList Rows.hopcroftApartSpec.vars false
    (#[.agg #[.slice none 0 0, .slice none 0 0, .slice none 0 0], .int .i64 0, .int .i64 0] : Array Value).toList 8 = some ([.agg [.nil, .nil, .nil], .lit (.int .i64 0), .lit (.int .i64 0)], [], places) :=
  ⟨[], by kernel_rfl⟩

set_option maxRecDepth 100000 in
theorem lifted (pure : ∀ rows0 rule0 entry0 n1 n2, Came rows0 rule0 entry0 n1 n2 → ∃ N, F_dofferlaw19_HopcroftApart N rows0 rule0 entry0 n1 n2 = some true) (os : Os) (started : os.Started) (H : Type) (enc : TypeId × Value → H) (F : Stop.Interp) :
    ReturnsInHanded {} Try.checked os 3 .any ((OpenSpec.ofChange Rows.hopcroftApartSpec).preRow enc Try.prog Try.f3 Rows.hopcroftApartRow.domain false Rows.hopcroftApartRow.laid) (((OpenSpec.ofChange Rows.hopcroftApartSpec).at F).post enc Try.prog Try.f3 false true false false) := by
  obtain ⟨places, hx⟩ := reads os enc
  refine returnsInHanded_of_row (C := Try.checked) (s := OpenSpec.ofChange Rows.hopcroftApartSpec) own started (by kernel_rfl) Try.func3
    (witness_row_atRef (enc := enc) (C := Try.checked) false (World.doorLaid Try.prog 400 os) #[.agg #[.slice none 0 0, .slice none 0 0, .slice none 0 0], .int .i64 0, .int .i64 0] rfl (by kernel_rfl) (by kernel_rfl) (by kernel_rfl)
      (OpenSpec.preRow_of_cond 8 hx (by kernel_rfl) (fun k hk => by cases hk) (by kernel_rfl) (met os _))) ?_
  intro W base args ds gs before hval hW _ _ _ hL _ _
  exact contract pure H enc W base args ds gs before hval hW hL

theorem said (pure : ∀ rows0 rule0 entry0 n1 n2, Came rows0 rule0 entry0 n1 n2 → ∃ N, F_dofferlaw19_HopcroftApart N rows0 rule0 entry0 n1 n2 = some true) : Rows.HopcroftApartSaid :=
  OpenClaim.holds_of_cond 3 Try.f3 rfl rfl rfl rfl rfl rfl rfl ⟨rfl, rfl, rfl, rfl, rfl⟩ rfl rfl rfl rfl rfl (by kernel_rfl) Try.func3 (by kernel_rfl)
    (of_decide_eq_true (by kernel_rfl)) (by unfold Func.isWrapper; first | (rw [if_pos (by decide +kernel)]; kernel_rfl) | (rw [if_neg (by decide +kernel)]; exact ⟨rfl, rfl⟩))
    (fun os started H enc _ F => by rw [OpenClaim.pre_eq_preRow]; exact lifted pure os started H enc F)

end HopcroftApart
/-- HopcroftApart -/
theorem HopcroftApart_proved : Rows.HopcroftApartSaid := HopcroftApart.said fun rows0 rule0 entry0 n1 n2 h => by
  refine ⟨4294967296, hopcroftApart_true (fun r hr => (h.hRow0 r hr).1)⟩
end Go.Proofs.Yteiaphkejkgfkaa
