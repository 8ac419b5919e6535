import Derived.Test.YtfokmjocophnoaaGreatDoorRulesCheckz
import Derived.Test.YtfokmjocophnoaaGreatDoorRulesCheckP1
namespace Go.Proofs.YtfokmjocophnoaaGreatDoor
namespace RulesCheck
open Go Go.Eng Go.ChangeShapes Go.WideShapes Go.ChangeAt Go.RowKit
set_option maxRecDepth 100000
theorem said (pure : ∀ l1 l4 l7, Came l1 l4 l7 → ∃ N, F_52 N l1 l4 l7 = some true) : Rows.RulesCheckSaid :=
  OpenClaim.holds_of_cond 5 Tryz.f5 rfl rfl rfl rfl rfl rfl rfl ⟨rfl, rfl, rfl, rfl, rfl⟩ rfl rfl rfl rfl rfl (by kernel_rfl) Tryz.func5 closed
    (of_decide_eq_true (by kernel_rfl)) (by unfold Func.isWrapper; first | (rw [if_pos (by decide +kernel)]; kernel_rfl) | (rw [if_neg (by decide +kernel)]; exact ⟨rfl, rfl⟩))
    (fun os started H enc _ F => by rw [OpenClaim.pre_eq_preRow]; exact lifted pure os started H enc F)
theorem plain (f : FuncId) (fn : Func) (hf : Tryz.pinned.checked.prog.funcNamed "doffer/dofferlaw14.RulesCheck" = some f) (hfn : Tryz.pinned.checked.prog.funcs[f]? = some fn) :
    true = Tryz.pinned.checked.prog.looks [] ∧ ∀ (j : Nat) t, fn.params[j]? = some t → Tryz.pinned.checked.prog.wantsStandIn t = false := by
  obtain rfl : f = 5 := Option.some.inj ((show Tryz.prog.funcNamed "doffer/dofferlaw14.RulesCheck" = some 5 by kernel_rfl).symm.trans hf) |>.symm
  obtain rfl : fn = Tryz.f5 := (Option.some.inj (Tryz.func5.symm.trans hfn)).symm
  refine ⟨by kernel_rfl, fun j t ht => ?_⟩
  rw [Tryz.params5] at ht
  obtain rfl : t = 72 := by simpa using Array.mem_of_getElem? ht
  exact (show Tryz.prog.wantsStandIn 72 = false by kernel_rfl)
theorem card (pure : ∀ l1 l4 l7, Came l1 l4 l7 → ∃ N, F_52 N l1 l4 l7 = some true) : Rows.RulesCheckCardSaid :=
  Claim7.holds_tied_plain_at .later [] _ _ _ _ (said pure) (fun _ h => by cases h) (by kernel_rfl) (fun _ h => by cases h) rulesCheck_row_tie rfl ⟨rfl, rfl⟩ (by kernel_rfl) rfl plain (by kernel_rfl)
end RulesCheck
theorem RulesCheck_proved : Rows.RulesCheckCardSaid := RulesCheck.card fun _ _ _ h => rulesCheck_true (fun x hx => (h.hArg0.2.1.2 x hx).2.1) (fun x hx => (h.hArg0.2.2.2 x hx).2.1)
end Go.Proofs.YtfokmjocophnoaaGreatDoor
