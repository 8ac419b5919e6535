/-
  The pure functions, printed by my program: what each function of the code computes.
-/
import Derived.Test.YtealkahefalaeaaGreatDoorSubsetCopiesE3
namespace Go.Proofs.YtealkahefalaeaaGreatDoor
open Go Go.Eng
set_option maxRecDepth 100000
def tab_math_bits_deBruijn64tab : List Int := [0, 1, 56, 2, 57, 49, 28, 3, 61, 58, 42, 50, 38, 29, 17, 4, 62, 47, 59, 36, 45, 43, 51, 22, 53, 39, 33, 30, 24, 18, 12, 5, 63, 55, 48, 27, 60, 41, 37, 16, 46, 35, 44, 21, 52, 32, 23, 11, 54, 26, 40, 15, 34, 20, 31, 10, 25, 14, 19, 9, 13, 8, 7, 6]
def errIds : List Nat := [0, 1, 2, 3, 4, 5, 6, 7, 8, 12, 14]
def F_dofferlaw17_Of_l0 (_N : Nat) (x2 : (List (List Int))) (x302 : Int) (x305 : (List (List Int))) : Option ((Int × (List (List Int))) ⊕ (List (List Int))) :=
if (decide (x302 < (x2.length : Int))) = true then (
idx x2 x302 >>= fun x335 =>
app x305 ([x335]) >>= fun x347 =>
some (.inl (w64 (x302 + 1), x347)))
else (
some (.inr x305))
def F_dofferlaw17_Of (N : Nat)  (x2 : (List (List Int))) (x5 : (List Int)) (x8 : (List Int)) (x10 : Int) : Option ((List (List Int)) × Bool) :=
((if (decide ((x2.length : Int) > x10)) = true then (
some true)
else (
if (decide ((x5.length : Int) > x10)) = true then (
some true)
else (
some (decide ((x8.length : Int) > 20))))) : Option Bool) >>= fun x193 =>
if x193 = true then (
some ([], false))
else (
((iterO N (fun s => F_dofferlaw17_Of_l0 N x2 s.1 s.2) (0, [])) : Option (List (List Int))) >>= fun x275 =>
some (x275, true))
def F_clone_97 (_N : Nat) (x : (List (List Int))) : Option (List (List Int)) := app [] x
def F_clone_73 (_N : Nat) (x : (List Int)) : Option (List Int) := app [] x
def F_subset_Copy (N : Nat)  (x2 : (List (List Int))) (x5 : (List Int)) (x8 : (List Int)) : Option ((List (List Int)) × (List Int) × (List Int)) :=
((F_clone_97 N x2 >>= fun x127 =>
F_clone_73 N x5 >>= fun x134 =>
F_clone_73 N x8 >>= fun x141 =>
some (x127, x134, x141)) : Option ((List (List Int)) × (List Int) × (List Int))) >>= fun (x112, x116, x120) =>
some (x112, x116, x120)
def F_slices_Equal_subset_Row_subset_Row_l0 (_N : Nat) (x2 : (List (List Int))) (x5 : (List (List Int))) (x173 : Int) : Option (Int ⊕ (Unit ⊕ Bool)) :=
if (decide (x173 < (x2.length : Int))) = true then (
idx x2 x173 >>= fun x193 =>
idx x5 x173 >>= fun x200 =>
if (x193 != x200) = true then (
some (.inr (.inr false)))
else (
some (.inl (w64 (x173 + 1)))))
else (
some (.inr (.inl ())))
def F_slices_Equal_subset_Row_subset_Row (N : Nat)  (x2 : (List (List Int))) (x5 : (List (List Int))) : Option Bool :=
if ((x2.length : Int) != (x5.length : Int)) = true then (
some false)
else (
((iterO N (fun s => F_slices_Equal_subset_Row_subset_Row_l0 N x2 x5 s) 0) : Option (Unit ⊕ Bool)) >>= fun z => match z with
| .inr z => some z
| .inl _ =>
some true)
def F_slices_Equal_int_int_l0 (_N : Nat) (x2 : (List Int)) (x5 : (List Int)) (x173 : Int) : Option (Int ⊕ (Unit ⊕ Bool)) :=
if (decide (x173 < (x2.length : Int))) = true then (
idx x2 x173 >>= fun x193 =>
idx x5 x173 >>= fun x200 =>
if (x193 != x200) = true then (
some (.inr (.inr false)))
else (
some (.inl (w64 (x173 + 1)))))
else (
some (.inr (.inl ())))
def F_slices_Equal_int_int (N : Nat)  (x2 : (List Int)) (x5 : (List Int)) : Option Bool :=
if ((x2.length : Int) != (x5.length : Int)) = true then (
some false)
else (
((iterO N (fun s => F_slices_Equal_int_int_l0 N x2 x5 s) 0) : Option (Unit ⊕ Bool)) >>= fun z => match z with
| .inr z => some z
| .inl _ =>
some true)
def F_subset_Same (N : Nat)  (x2 : (List (List Int))) (x5 : (List Int)) (x8 : (List Int)) (x11 : (List (List Int))) (x14 : (List Int)) (x17 : (List Int)) : Option Bool :=
((F_slices_Equal_subset_Row_subset_Row N x2 x11 >>= fun x71 =>
if x71 = true then (
F_slices_Equal_int_int N x5 x14 >>= fun x75 =>
if x75 = true then (
F_slices_Equal_int_int N x8 x17 >>= fun x79 =>
some x79)
else (
some false))
else (
some false)) : Option Bool) >>= fun x67 =>
some x67
def F_doffernum_SameInts_l0 (_N : Nat) (x2 : (List Int)) (x5 : (List Int)) (x173 : Int) : Option (Int ⊕ (Unit ⊕ Bool)) :=
if (decide (x173 < (x2.length : Int))) = true then (
idx x2 x173 >>= fun x193 =>
idx x5 x173 >>= fun x200 =>
if (x193 != x200) = true then (
some (.inr (.inr false)))
else (
some (.inl (w64 (x173 + 1)))))
else (
some (.inr (.inl ())))
def F_doffernum_SameInts (N : Nat)  (x2 : (List Int)) (x5 : (List Int)) : Option Bool :=
if ((x2.length : Int) != (x5.length : Int)) = true then (
some false)
else (
((iterO N (fun s => F_doffernum_SameInts_l0 N x2 x5 s) 0) : Option (Unit ⊕ Bool)) >>= fun z => match z with
| .inr z => some z
| .inl _ =>
some true)
def F_dofferref17_Same_l0 (_N : Nat) (x2 : (List (List Int))) (x11 : (List (List Int))) (x231 : Int) : Option (Int ⊕ (Unit ⊕ Bool)) :=
if (decide (x231 < (x2.length : Int))) = true then (
idx x2 x231 >>= fun x251 =>
idx x11 x231 >>= fun x258 =>
if (x251 != x258) = true then (
some (.inr (.inr false)))
else (
some (.inl (w64 (x231 + 1)))))
else (
some (.inr (.inl ())))
def F_dofferref17_Same (N : Nat)  (x2 : (List (List Int))) (x5 : (List Int)) (x8 : (List Int)) (x11 : (List (List Int))) (x14 : (List Int)) (x17 : (List Int)) : Option Bool :=
((if ((x2.length : Int) != (x11.length : Int)) = true then (
some true)
else (
F_doffernum_SameInts N x5 x14 >>= fun x159 =>
if (!x159) = true then (
some true)
else (
F_doffernum_SameInts N x8 x17 >>= fun x163 =>
some (!x163)))) : Option Bool) >>= fun x155 =>
if x155 = true then (
some false)
else (
((iterO N (fun s => F_dofferref17_Same_l0 N x2 x11 s) 0) : Option (Unit ⊕ Bool)) >>= fun z => match z with
| .inr z => some z
| .inl _ =>
some true)
def F_dofferlaw17_SubsetCopies_l0 (_N : Nat) (x657 : (List (List Int))) (x938 : Int) (x940 : (List (List Int))) : Option ((Int × (List (List Int))) ⊕ (List (List Int))) :=
if (decide (x938 < (x657.length : Int))) = true then (
((idx x940 x938 >>= fun x1034 =>
idx x1034 5 >>= fun x1041 =>
idx x940 x938 >>= fun x1043 =>
idx x1043 5 >>= fun _x1053 =>
setI x1043 5 (w64 (x1041 + 1)) >>= fun x1055 =>
setI x940 x938 x1055 >>= fun x1056 =>
some x1056) : Option (List (List Int))) >>= fun x1031 =>
some (.inl (w64 (x938 + 1), x1031)))
else (
some (.inr x940))
def F_dofferlaw17_SubsetCopies_l1 (_N : Nat) (x658 : (List Int)) (x1154 : Int) (x1156 : (List Int)) : Option ((Int × (List Int)) ⊕ Unit) :=
if (decide (x1154 < (x658.length : Int))) = true then (
idx x1156 x1154 >>= fun x1184 =>
idx x1156 x1154 >>= fun _x1191 =>
setI x1156 x1154 (w64 (x1184 - 1)) >>= fun x1198 =>
some (.inl (w64 (x1154 + 1), x1198)))
else (
some (.inr ()))
def F_dofferlaw17_SubsetCopies (N : Nat)  (x2 : (List (List Int))) (x5 : (List Int)) (x8 : (List Int)) (x11 : (List (List Int))) (x14 : (List Int)) (x17 : (List Int)) : Option Bool :=
F_dofferlaw17_Of N x2 x5 x8 20 >>= fun (x628, x629) =>
F_dofferlaw17_Of N x11 x14 x17 20 >>= fun (x639, x640) =>
((if (!x629) = true then (
some true)
else (
some (!x640))) : Option Bool) >>= fun x646 =>
if x646 = true then (
some true)
else (
F_subset_Copy N x2 x5 x8 >>= fun (x657, x658, x659) =>
((F_subset_Same N x2 x5 x8 x11 x14 x17 >>= fun x683 =>
F_dofferref17_Same N x628 x5 x8 x639 x14 x17 >>= fun x687 =>
if (x683 != x687) = true then (
some true)
else (
F_subset_Same N x657 x658 x659 x2 x5 x8 >>= fun x691 =>
some (!x691))) : Option Bool) >>= fun x679 =>
if x679 = true then (
some false)
else (
((iterO N (fun s => F_dofferlaw17_SubsetCopies_l0 N x657 s.1 s.2) (0, x657)) : Option (List (List Int))) >>= fun _x876 =>
((iterO N (fun s => F_dofferlaw17_SubsetCopies_l1 N x658 s.1 s.2) (0, x658)) : Option Unit) >>= fun _ =>
F_dofferlaw17_Of N x2 x5 x8 20 >>= fun (x1207, _x1208) =>
F_dofferref17_Same N x1207 x5 x8 x628 x5 x8 >>= fun x1216 =>
some x1216))
def F_subset_Right_1 (_N : Nat)  (x1 : Int) (x3 : Int) : Option Bool :=
((if (decide (x1 < 0)) = true then (
some true)
else (
some (decide (x1 ≥ x3)))) : Option Bool) >>= fun x8 =>
some x8
def F_slices_IndexFunc_int_int_l0 (N : Nat) (x2 : (List Int)) (x5 : Int) (x142 : Int) : Option (Int ⊕ (Unit ⊕ Int)) :=
if (decide (x142 < (x2.length : Int))) = true then (
idx x2 x142 >>= fun x159 =>
F_subset_Right_1 N x159 x5 >>= fun x168 =>
if x168 = true then (
some (.inr (.inr x142)))
else (
some (.inl (w64 (x142 + 1)))))
else (
some (.inr (.inl ())))
def F_slices_IndexFunc_int_int (N : Nat)  (x2 : (List Int)) (x5 : Int) : Option Int :=
((iterO N (fun s => F_slices_IndexFunc_int_int_l0 N x2 x5 s) 0) : Option (Unit ⊕ Int)) >>= fun z => match z with
| .inr z => some z
| .inl _ =>
some (-1)
end Go.Proofs.YtealkahefalaeaaGreatDoor
