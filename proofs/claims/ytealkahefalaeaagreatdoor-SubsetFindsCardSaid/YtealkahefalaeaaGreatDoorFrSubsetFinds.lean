import Derived.Test.YtealkahefalaeaaGreatDoorSubsetFindsz
import Derived.Test.YtealkahefalaeaaGreatDoorSubsetFindsP1
namespace Go.Proofs.YtealkahefalaeaaGreatDoor
namespace SubsetFinds
open Go Go.Eng Go.ChangeShapes Go.WideShapes Go.ChangeAt Go.RowKit
set_option maxRecDepth 100000
theorem said (pure : ∀ l1 l4 l7 n10, Came l1 l4 l7 n10 → ∃ N, F_19 N l1 l4 l7 n10 = some true) : Rows.SubsetFindsSaid :=
  OpenClaim.holds_of_cond 12 Tryz.f12 rfl rfl rfl rfl rfl rfl rfl ⟨rfl, rfl, rfl, rfl, rfl⟩ rfl rfl rfl rfl rfl (by kernel_rfl) Tryz.func12 closed
    (of_decide_eq_true (by kernel_rfl)) (by unfold Func.isWrapper; first | (rw [if_pos (by decide +kernel)]; kernel_rfl) | (rw [if_neg (by decide +kernel)]; exact ⟨rfl, rfl⟩))
    (fun os started H enc _ F => by rw [OpenClaim.pre_eq_preRow]; exact lifted pure os started H enc F)
theorem plain (f : FuncId) (fn : Func) (hf : Tryz.pinned.checked.prog.funcNamed "doffer/dofferlaw17.SubsetFinds" = some f) (hfn : Tryz.pinned.checked.prog.funcs[f]? = some fn) :
    true = Tryz.pinned.checked.prog.looks [] ∧ ∀ (j : Nat) t, fn.params[j]? = some t → Tryz.pinned.checked.prog.wantsStandIn t = false := by
  obtain rfl : f = 12 := Option.some.inj ((show Tryz.prog.funcNamed "doffer/dofferlaw17.SubsetFinds" = some 12 by kernel_rfl).symm.trans hf) |>.symm
  obtain rfl : fn = Tryz.f12 := (Option.some.inj (Tryz.func12.symm.trans hfn)).symm
  refine ⟨by kernel_rfl, fun j t ht => ?_⟩
  rw [Tryz.params12] at ht
  have ht : t = 25 ∨ t = 42 ∨ t = 3 := by simpa using Array.mem_of_getElem? ht
  rcases ht with rfl | rfl | rfl
  · exact (show Tryz.prog.wantsStandIn 25 = false by kernel_rfl)
  · exact (show Tryz.prog.wantsStandIn 42 = false by kernel_rfl)
  · exact (show Tryz.prog.wantsStandIn 3 = false by kernel_rfl)
theorem card (pure : ∀ l1 l4 l7 n10, Came l1 l4 l7 n10 → ∃ N, F_19 N l1 l4 l7 n10 = some true) : Rows.SubsetFindsCardSaid :=
  Claim7.holds_tied_plain_at .later [] _ _ _ _ (said pure) (fun _ h => by cases h) (by kernel_rfl) (fun _ h => by cases h) subsetFinds_row_tie rfl ⟨rfl, rfl⟩ (by kernel_rfl) rfl plain (by kernel_rfl)
end SubsetFinds
theorem SubsetFinds_proved : Rows.SubsetFindsCardSaid := SubsetFinds.card fun _ _ _ _ h => subsetFinds_true (fun s hs => by
  have := (h.hArg0.1.2 s hs).2.1
  simp only [Go.Eng.InK, IntKind.min, IntKind.max, IntKind.signed, IntKind.bits] at this
  simp at this
  unfold Wd
  omega) (fun c hc => by
  have := h.hArg1.2 c hc
  simp only [Go.Eng.InK, IntKind.min, IntKind.max, IntKind.signed, IntKind.bits] at this
  simp at this
  omega)
end Go.Proofs.YtealkahefalaeaaGreatDoor
