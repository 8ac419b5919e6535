import Derived.Test.YtnkednnnkifenaaGreatDoorMunchJoinz
import Derived.Test.YtnkednnnkifenaaGreatDoorMunchJoinP5
namespace Go.Proofs.YtnkednnnkifenaaGreatDoor
namespace MunchJoin
open Go Go.Eng Go.ChangeShapes Go.WideShapes Go.ChangeAt Go.RowKit
set_option maxRecDepth 100000
theorem said (pure : ∀ l1 l4 n7, Came l1 l4 n7 → ∃ N, F_29 N l1 l4 n7 = some true) : Rows.MunchJoinSaid :=
  OpenClaim.holds_of_cond 6 Tryz.f6 rfl rfl rfl rfl rfl rfl rfl ⟨rfl, rfl, rfl, rfl, rfl⟩ rfl rfl rfl rfl rfl (by kernel_rfl) Tryz.func6 closed
    (of_decide_eq_true (by kernel_rfl)) (by unfold Func.isWrapper; first | (rw [if_pos (by decide +kernel)]; kernel_rfl) | (rw [if_neg (by decide +kernel)]; exact ⟨rfl, rfl⟩))
    (fun os started H enc _ F => by rw [OpenClaim.pre_eq_preRow]; exact lifted pure os started H enc F)
theorem plain (f : FuncId) (fn : Func) (hf : Tryz.pinned.checked.prog.funcNamed "doffer/dofferlaw27.MunchJoin" = some f) (hfn : Tryz.pinned.checked.prog.funcs[f]? = some fn) :
    true = Tryz.pinned.checked.prog.looks [] ∧ ∀ (j : Nat) t, fn.params[j]? = some t → Tryz.pinned.checked.prog.wantsStandIn t = false := by
  obtain rfl : f = 6 := oi ((show Tryz.prog.funcNamed "doffer/dofferlaw27.MunchJoin" = some 6 by kernel_rfl).symm.trans hf) |>.symm
  obtain rfl : fn = Tryz.f6 := (oi (Tryz.func6.symm.trans hfn)).symm
  refine ⟨by kernel_rfl, fun j t ht => ?_⟩
  rw [Tryz.params6] at ht
  have ht : t = 22 ∨ t = 3 := by simpa using Array.mem_of_getElem? ht
  rcases ht with rfl | rfl
  · exact (show Tryz.prog.wantsStandIn 22 = false by kernel_rfl)
  · exact (show Tryz.prog.wantsStandIn 3 = false by kernel_rfl)
theorem card (pure : ∀ l1 l4 n7, Came l1 l4 n7 → ∃ N, F_29 N l1 l4 n7 = some true) : Rows.MunchJoinCardSaid :=
  Claim7.holds_tied_plain_at .later [] _ _ _ _ (said pure) (fun _ h => by cases h) (by kernel_rfl) (fun _ h => by cases h) munchJoin_row_tie rfl ⟨rfl, rfl⟩ (by kernel_rfl) rfl plain (by kernel_rfl)
end MunchJoin
theorem MunchJoin_proved : Rows.MunchJoinCardSaid := MunchJoin.card fun _ _ _ h => munchJoin_true fun x hx => Go.Eng.u8_rng (h.hArg1.2 x hx)
end Go.Proofs.YtnkednnnkifenaaGreatDoor
