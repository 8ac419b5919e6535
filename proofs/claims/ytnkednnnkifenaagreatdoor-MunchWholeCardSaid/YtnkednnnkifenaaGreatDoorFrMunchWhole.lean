import Derived.Test.YtnkednnnkifenaaGreatDoorMunchWholez
import Derived.Test.YtnkednnnkifenaaGreatDoorMunchWholeP5
namespace Go.Proofs.YtnkednnnkifenaaGreatDoor
namespace MunchWhole
open Go Go.Eng Go.ChangeShapes Go.WideShapes Go.ChangeAt Go.RowKit
set_option maxRecDepth 100000
theorem said (pure : ∀ l1 l4 n7, Came l1 l4 n7 → ∃ N, F_16 N l1 l4 n7 = some true) : Rows.MunchWholeSaid :=
  OpenClaim.holds_of_cond 5 Tryz.f5 rfl rfl rfl rfl rfl rfl rfl ⟨rfl, rfl, rfl, rfl, rfl⟩ rfl rfl rfl rfl rfl (by kernel_rfl) Tryz.func5 closed
    (of_decide_eq_true (by kernel_rfl)) (by unfold Func.isWrapper; first | (rw [if_pos (by decide +kernel)]; kernel_rfl) | (rw [if_neg (by decide +kernel)]; exact ⟨rfl, rfl⟩))
    (fun os started H enc _ F => by rw [OpenClaim.pre_eq_preRow]; exact lifted pure os started H enc F)
theorem plain (f : FuncId) (fn : Func) (hf : Tryz.pinned.checked.prog.funcNamed "doffer/dofferlaw27.MunchWhole" = some f) (hfn : Tryz.pinned.checked.prog.funcs[f]? = some fn) :
    true = Tryz.pinned.checked.prog.looks [] ∧ ∀ (j : Nat) t, fn.params[j]? = some t → Tryz.pinned.checked.prog.wantsStandIn t = false := by
  obtain rfl : f = 5 := oi ((show Tryz.prog.funcNamed "doffer/dofferlaw27.MunchWhole" = some 5 by kernel_rfl).symm.trans hf) |>.symm
  obtain rfl : fn = Tryz.f5 := (oi (Tryz.func5.symm.trans hfn)).symm
  refine ⟨by kernel_rfl, fun j t ht => ?_⟩
  rw [Tryz.params5] at ht
  have ht : t = 22 ∨ t = 3 := by simpa using Array.mem_of_getElem? ht
  rcases ht with rfl | rfl
  · exact (show Tryz.prog.wantsStandIn 22 = false by kernel_rfl)
  · exact (show Tryz.prog.wantsStandIn 3 = false by kernel_rfl)
theorem card (pure : ∀ l1 l4 n7, Came l1 l4 n7 → ∃ N, F_16 N l1 l4 n7 = some true) : Rows.MunchWholeCardSaid :=
  Claim7.holds_tied_plain_at .later [] _ _ _ _ (said pure) (fun _ h => by cases h) (by kernel_rfl) (fun _ h => by cases h) munchWhole_row_tie rfl ⟨rfl, rfl⟩ (by kernel_rfl) rfl plain (by kernel_rfl)
end MunchWhole
theorem MunchWhole_proved : Rows.MunchWholeCardSaid := MunchWhole.card fun _ _ _ h => munchWhole_true fun x hx => Go.Eng.u8_rng (h.hArg1.2 x hx)
end Go.Proofs.YtnkednnnkifenaaGreatDoor
