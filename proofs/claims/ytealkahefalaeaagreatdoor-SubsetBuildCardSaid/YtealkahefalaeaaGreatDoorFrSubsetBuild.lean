import Derived.Test.YtealkahefalaeaaGreatDoorSubsetBuildz
import Derived.Test.YtealkahefalaeaaGreatDoorSubsetBuildP1
namespace Go.Proofs.YtealkahefalaeaaGreatDoor
namespace SubsetBuild
open Go Go.Eng Go.ChangeShapes Go.WideShapes Go.ChangeAt Go.RowKit
set_option maxRecDepth 100000
theorem said (pure : ∀ l1 l4, Came l1 l4 → ∃ N, F_54 N l1 l4 = some true) : Rows.SubsetBuildSaid :=
  OpenClaim.holds_of_cond 11 Tryz.f11 rfl rfl rfl rfl rfl rfl rfl ⟨rfl, rfl, rfl, rfl, rfl⟩ rfl rfl rfl rfl rfl (by kernel_rfl) Tryz.func11 closed
    (of_decide_eq_true (by kernel_rfl)) (by unfold Func.isWrapper; first | (rw [if_pos (by decide +kernel)]; kernel_rfl) | (rw [if_neg (by decide +kernel)]; exact ⟨rfl, rfl⟩))
    (fun os started H enc _ F => by rw [OpenClaim.pre_eq_preRow]; exact lifted pure os started H enc F)
theorem plain (f : FuncId) (fn : Func) (hf : Tryz.pinned.checked.prog.funcNamed "doffer/dofferlaw17.SubsetBuild" = some f) (hfn : Tryz.pinned.checked.prog.funcs[f]? = some fn) :
    true = Tryz.pinned.checked.prog.looks [] ∧ ∀ (j : Nat) t, fn.params[j]? = some t → Tryz.pinned.checked.prog.wantsStandIn t = false := by
  obtain rfl : f = 11 := Option.some.inj ((show Tryz.prog.funcNamed "doffer/dofferlaw17.SubsetBuild" = some 11 by kernel_rfl).symm.trans hf) |>.symm
  obtain rfl : fn = Tryz.f11 := (Option.some.inj (Tryz.func11.symm.trans hfn)).symm
  refine ⟨by kernel_rfl, fun j t ht => ?_⟩
  rw [Tryz.params11] at ht
  obtain rfl : t = 25 := by simpa using Array.mem_of_getElem? ht
  exact (show Tryz.prog.wantsStandIn 25 = false by kernel_rfl)
theorem card (pure : ∀ l1 l4, Came l1 l4 → ∃ N, F_54 N l1 l4 = some true) : Rows.SubsetBuildCardSaid :=
  Claim7.holds_tied_plain_at .later [] _ _ _ _ (said pure) (fun _ h => by cases h) (by kernel_rfl) (fun _ h => by cases h) subsetBuild_row_tie rfl ⟨rfl, rfl⟩ (by kernel_rfl) rfl plain (by kernel_rfl)
end SubsetBuild
theorem SubsetBuild_proved : Rows.SubsetBuildCardSaid := SubsetBuild.card fun _ _ h => subsetBuild_true (fun s hs => by
  have := (h.hArg0.1.2 s hs).2.1
  simp only [Go.Eng.InK, IntKind.min, IntKind.max, IntKind.signed, IntKind.bits] at this
  simp at this
  unfold Wd
  omega)
end Go.Proofs.YtealkahefalaeaaGreatDoor
