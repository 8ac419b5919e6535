/-
  THE CLAIM: the law, whatever the input, answers true and leaves its arguments as they were. Conditions: the listed variables' tie (given).
-/
import Derived.Test.YtchjfkdljnmmgaaGreatDoorNfaRightz
import Derived.Test.YtchjfkdljnmmgaaGreatDoorNfaRightP1
namespace Go.Proofs.YtchjfkdljnmmgaaGreatDoor
namespace NfaRight
open Go Go.Eng Go.ChangeShapes Go.WideShapes Go.ChangeAt Go.RowKit
set_option maxRecDepth 100000
theorem said (pure : ∀ l1 l4 l7 l10, Came l1 l4 l7 l10 → ∃ N, F_dofferlaw15_NfaRight N l1 l4 l7 l10 = some true) : Rows.NfaRightSaid :=
  OpenClaim.holds_of_cond 4 Tryz.f4 rfl rfl rfl rfl rfl rfl rfl ⟨rfl, rfl, rfl, rfl, rfl⟩ rfl rfl rfl rfl rfl (by kernel_rfl) Tryz.func4 closed
    (of_decide_eq_true (by kernel_rfl)) (by unfold Func.isWrapper; first | (rw [if_pos (by decide +kernel)]; kernel_rfl) | (rw [if_neg (by decide +kernel)]; exact ⟨rfl, rfl⟩))
    (fun os started H enc _ F => by rw [OpenClaim.pre_eq_preRow]; exact lifted pure os started H enc F)

theorem plain (f : FuncId) (fn : Func) (hf : Tryz.pinned.checked.prog.funcNamed "doffer/dofferlaw15.NfaRight" = some f) (hfn : Tryz.pinned.checked.prog.funcs[f]? = some fn) :
    true = Tryz.pinned.checked.prog.looks [] ∧ ∀ (j : Nat) t, fn.params[j]? = some t → Tryz.pinned.checked.prog.wantsStandIn t = false := by
  obtain rfl : f = 4 := Option.some.inj ((show Tryz.prog.funcNamed "doffer/dofferlaw15.NfaRight" = some 4 by kernel_rfl).symm.trans hf) |>.symm
  obtain rfl : fn = Tryz.f4 := (Option.some.inj (Tryz.func4.symm.trans hfn)).symm
  refine ⟨by kernel_rfl, fun j t ht => ?_⟩
  rw [Tryz.params4] at ht
  obtain rfl : t = 25 := by simpa using Array.mem_of_getElem? ht
  exact (show Tryz.prog.wantsStandIn 25 = false by kernel_rfl)

theorem card (pure : ∀ l1 l4 l7 l10, Came l1 l4 l7 l10 → ∃ N, F_dofferlaw15_NfaRight N l1 l4 l7 l10 = some true) : Rows.NfaRightCardSaid :=
  Claim7.holds_tied_plain_at .later [] _ _ _ _ (said pure) (fun _ h => by cases h) (by kernel_rfl) (fun _ h => by cases h) nfaRight_row_tie rfl ⟨rfl, rfl⟩ (by kernel_rfl) rfl plain (by kernel_rfl)
end NfaRight
/-- THE CARD OF NfaRight -/
theorem NfaRight_proved : Rows.NfaRightCardSaid := NfaRight.card fun _ _ _ _ h => nfaRight_true
end Go.Proofs.YtchjfkdljnmmgaaGreatDoor
