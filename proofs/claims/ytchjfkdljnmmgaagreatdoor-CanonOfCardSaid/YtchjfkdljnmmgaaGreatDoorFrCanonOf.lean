import Derived.Test.YtchjfkdljnmmgaaGreatDoorCanonOfz
import Derived.Test.YtchjfkdljnmmgaaGreatDoorCanonOfP3
namespace Go.Proofs.YtchjfkdljnmmgaaGreatDoor
namespace CanonOf
open Go Go.Eng Go.ChangeShapes Go.WideShapes Go.ChangeAt Go.RowKit
set_option maxRecDepth 100000
theorem said (pure : ∀ l1 l4, Came l1 l4 → ∃ N, F_114 N l1 l4 = some true) : Rows.CanonOfSaid :=
  OpenClaim.holds_of_cond 3 Tryz.f3 rfl rfl rfl rfl rfl rfl rfl ⟨rfl, rfl, rfl, rfl, rfl⟩ rfl rfl rfl rfl rfl (by kernel_rfl) Tryz.func3 closed
    (of_decide_eq_true (by kernel_rfl)) (by unfold Func.isWrapper; first | (rw [if_pos (by decide +kernel)]; kernel_rfl) | (rw [if_neg (by decide +kernel)]; exact ⟨rfl, rfl⟩))
    (fun os started H enc _ F => by rw [OpenClaim.pre_eq_preRow]; exact lifted pure os started H enc F)
theorem plain (f : FuncId) (fn : Func) (hf : Tryz.pinned.checked.prog.funcNamed "doffer/dofferlaw20.CanonOf" = some f) (hfn : Tryz.pinned.checked.prog.funcs[f]? = some fn) :
    true = Tryz.pinned.checked.prog.looks [] ∧ ∀ (j : Nat) t, fn.params[j]? = some t → Tryz.pinned.checked.prog.wantsStandIn t = false := by
  obtain rfl : f = 3 := Option.some.inj ((show Tryz.prog.funcNamed "doffer/dofferlaw20.CanonOf" = some 3 by kernel_rfl).symm.trans hf) |>.symm
  obtain rfl : fn = Tryz.f3 := (Option.some.inj (Tryz.func3.symm.trans hfn)).symm
  refine ⟨by kernel_rfl, fun j t ht => ?_⟩
  rw [Tryz.params3] at ht
  obtain rfl : t = 25 := by simpa using Array.mem_of_getElem? ht
  exact (show Tryz.prog.wantsStandIn 25 = false by kernel_rfl)
theorem card (pure : ∀ l1 l4, Came l1 l4 → ∃ N, F_114 N l1 l4 = some true) : Rows.CanonOfCardSaid :=
  Claim7.holds_tied_plain_at .later [] _ _ _ _ (said pure) (fun _ h => by cases h) (by kernel_rfl) (fun _ h => by cases h) canonOf_row_tie rfl ⟨rfl, rfl⟩ (by kernel_rfl) rfl plain (by kernel_rfl)
end CanonOf
theorem CanonOf_proved : Rows.CanonOfCardSaid := CanonOf.card fun _ _ h => ⟨4294967296, canonOf_true (fun s hs => by
  have := (h.hArg0.1.2 s hs).2.1
  simp only [Go.Eng.InK, IntKind.min, IntKind.max, IntKind.signed, IntKind.bits] at this
  simp at this
  unfold Wd
  omega)⟩
end Go.Proofs.YtchjfkdljnmmgaaGreatDoor
