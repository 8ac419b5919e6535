/-
  The pure functions, printed by my program: what each function of the code computes.
-/
import Derived.Test.YtealkahefalaeaaGreatDoorWalkClosedE3
namespace Go.Proofs.YtealkahefalaeaaGreatDoor
open Go Go.Eng
set_option maxRecDepth 100000
def tab_math_bits_deBruijn64tab : List Int := [0, 1, 56, 2, 57, 49, 28, 3, 61, 58, 42, 50, 38, 29, 17, 4, 62, 47, 59, 36, 45, 43, 51, 22, 53, 39, 33, 30, 24, 18, 12, 5, 63, 55, 48, 27, 60, 41, 37, 16, 46, 35, 44, 21, 52, 32, 23, 11, 54, 26, 40, 15, 34, 20, 31, 10, 25, 14, 19, 9, 13, 8, 7, 6]
def errIds : List Nat := [0, 1, 2, 3, 4, 5, 6, 7, 8, 12, 14]
def F_slices_Equal_int_int_l0 (_N : Nat) (x2 : (List Int)) (x5 : (List Int)) (x173 : Int) : Option (Int ⊕ (Unit ⊕ Bool)) :=
if (decide (x173 < (x2.length : Int))) = true then (
idx x2 x173 >>= fun x193 =>
idx x5 x173 >>= fun x200 =>
if (x193 != x200) = true then (
some (.inr (.inr false)))
else (
some (.inl (w64 (x173 + 1)))))
else (
some (.inr (.inl ())))
def F_slices_Equal_int_int (N : Nat)  (x2 : (List Int)) (x5 : (List Int)) : Option Bool :=
if ((x2.length : Int) != (x5.length : Int)) = true then (
some false)
else (
((iterO N (fun s => F_slices_Equal_int_int_l0 N x2 x5 s) 0) : Option (Unit ⊕ Bool)) >>= fun z => match z with
| .inr z => some z
| .inl _ =>
some true)
def F_doffernum_SameInts_l0 (_N : Nat) (x2 : (List Int)) (x5 : (List Int)) (x173 : Int) : Option (Int ⊕ (Unit ⊕ Bool)) :=
if (decide (x173 < (x2.length : Int))) = true then (
idx x2 x173 >>= fun x193 =>
idx x5 x173 >>= fun x200 =>
if (x193 != x200) = true then (
some (.inr (.inr false)))
else (
some (.inl (w64 (x173 + 1)))))
else (
some (.inr (.inl ())))
def F_doffernum_SameInts (N : Nat)  (x2 : (List Int)) (x5 : (List Int)) : Option Bool :=
if ((x2.length : Int) != (x5.length : Int)) = true then (
some false)
else (
((iterO N (fun s => F_doffernum_SameInts_l0 N x2 x5 s) 0) : Option (Unit ⊕ Bool)) >>= fun z => match z with
| .inr z => some z
| .inl _ =>
some true)
def F_dofferlaw15_Of_l0 (_N : Nat) (x2 : (List ((List Int) × (Int × Int × Int × Int) × Int × Int))) (x639 : Int) (x642 : (List ((List Int) × (Int × Int × Int × Int) × Int × Int))) : Option ((Int × (List ((List Int) × (Int × Int × Int × Int) × Int × Int))) ⊕ ((List ((List Int) × (Int × Int × Int × Int) × Int × Int)) ⊕ ((List ((List Int) × (Int × Int × Int × Int) × Int × Int)) × Bool))) :=
if (decide (x639 < (x2.length : Int))) = true then (
idx x2 x639 >>= fun x706 =>
if (decide ((x706.1.length : Int) > 100)) = true then (
some (.inr (.inr (x642, false))))
else (
app x642 ([(x706.1, (x706.2.1.1, x706.2.1.2.1, x706.2.1.2.2.1, x706.2.1.2.2.2), x706.2.2.1, x706.2.2.2)]) >>= fun x752 =>
some (.inl (w64 (x639 + 1), x752))))
else (
some (.inr (.inl x642)))
def F_dofferlaw15_Of (N : Nat)  (x2 : (List ((List Int) × (Int × Int × Int × Int) × Int × Int))) (x5 : (List Int)) (x7 : Int) : Option ((List ((List Int) × (Int × Int × Int × Int) × Int × Int)) × Bool) :=
((if (decide ((x5.length : Int) > 20)) = true then (
some true)
else (
some (decide ((x2.length : Int) > x7)))) : Option Bool) >>= fun x394 =>
if x394 = true then (
some ([], false))
else (
((iterO N (fun s => F_dofferlaw15_Of_l0 N x2 s.1 s.2) (0, [])) : Option ((List ((List Int) × (Int × Int × Int × Int) × Int × Int)) ⊕ ((List ((List Int) × (Int × Int × Int × Int) × Int × Int)) × Bool))) >>= fun z => match z with
| .inr z => some z
| .inl x578 =>
some (x578, true))
def F_dofferref15_Right_l0 (_N : Nat) (x2 : (List ((List Int) × (Int × Int × Int × Int) × Int × Int))) (x5 : (List Int)) (x891 : Int) : Option (Int ⊕ (Unit ⊕ Bool)) :=
if (decide (x891 < (x5.length : Int))) = true then (
idx x5 x891 >>= fun x907 =>
((if (decide (x907 < 0)) = true then (
some true)
else (
some (decide (x907 ≥ (x2.length : Int))))) : Option Bool) >>= fun x914 =>
if x914 = true then (
some (.inr (.inr false)))
else (
some (.inl (w64 (x891 + 1)))))
else (
some (.inr (.inl ())))
def F_dofferref15_Right_l2 (_N : Nat) (x2 : (List ((List Int) × (Int × Int × Int × Int) × Int × Int))) (x1543 : ((List Int) × (Int × Int × Int × Int) × Int × Int)) (x1638 : Int) : Option (Int ⊕ (Unit ⊕ (Int ⊕ (Unit ⊕ Bool)))) :=
if (decide (x1638 < (x1543.1.length : Int))) = true then (
idx x1543.1 x1638 >>= fun x1654 =>
((if (decide (x1654 < 0)) = true then (
some true)
else (
some (decide (x1654 ≥ (x2.length : Int))))) : Option Bool) >>= fun x1661 =>
if x1661 = true then (
some (.inr (.inr (.inr (.inr false)))))
else (
some (.inl (w64 (x1638 + 1)))))
else (
some (.inr (.inl ())))
def F_dofferref15_Right_l1 (N : Nat) (x2 : (List ((List Int) × (Int × Int × Int × Int) × Int × Int))) (x1415 : Int) : Option (Int ⊕ (Unit ⊕ Bool)) :=
if (decide (x1415 < (x2.length : Int))) = true then (
idx x2 x1415 >>= fun x1543 =>
((if (decide (x1543.2.2.1 < (-1))) = true then (
some true)
else (
if (decide (x1543.2.2.1 ≥ (x2.length : Int))) = true then (
some true)
else (
if (decide (x1543.2.2.2 < (-1))) = true then (
some true)
else (
if (decide (x1543.2.2.2 > 47)) = true then (
some true)
else (
if (x1543.2.2.1 == (-1)) = true then (
some (([x1543.2.1.1, x1543.2.1.2.1, x1543.2.1.2.2.1, x1543.2.1.2.2.2] : List Int) != ([0, 0, 0, 0] : List Int)))
else (
some false)))))) : Option Bool) >>= fun x1586 =>
if x1586 = true then (
some (.inr (.inr false)))
else (
((iterO N (fun s => F_dofferref15_Right_l2 N x2 x1543 s) 0) : Option (Unit ⊕ (Int ⊕ (Unit ⊕ Bool)))) >>= fun z => match z with
| .inr z => some z
| .inl _ =>
some (.inl (w64 (x1415 + 1)))))
else (
some (.inr (.inl ())))
def F_dofferref15_Right (N : Nat)  (x2 : (List ((List Int) × (Int × Int × Int × Int) × Int × Int))) (x5 : (List Int)) : Option Bool :=
((if (decide ((x2.length : Int) < 1)) = true then (
some true)
else (
if (decide ((x2.length : Int) > 4000)) = true then (
some true)
else (
if (decide ((x5.length : Int) < 1)) = true then (
some true)
else (
some (decide ((x5.length : Int) > 8)))))) : Option Bool) >>= fun x839 =>
if x839 = true then (
some false)
else (
((iterO N (fun s => F_dofferref15_Right_l0 N x2 x5 s) 0) : Option (Unit ⊕ Bool)) >>= fun z => match z with
| .inr z => some z
| .inl _ =>
((iterO N (fun s => F_dofferref15_Right_l1 N x2 s) 0) : Option (Unit ⊕ Bool)) >>= fun z => match z with
| .inr z => some z
| .inl _ =>
some true)
def F_marks_New (_N : Nat)  (x1 : Int) : Option (Unit ⊕ (List Int)) :=
((if (decide (x1 < 0)) = true then (
some true)
else (
some (decide (x1 > 65536)))) : Option Bool) >>= fun x16 =>
if x16 = true then (
some (.inl ()))
else (
mk 0 (w64 ((w64 ((w64 (x1 + 64)) - 1)).tdiv 64)) >>= fun x19 =>
some (.inr x19))
def F_marks_Marks_Size (_N : Nat)  (_x3 : (List Int)) (_x6 : Int) : Option Unit :=
some ()
def F_marks_Marks_at (N : Nat)  (x3 : (List Int)) (x6 : Int) (x7 : Int) : Option (Int × Int × Bool) :=
((nn ((IntKind.wrap .u64 x7).tmod 64) >>= fun _x32 =>
if (decide (x7 ≥ 0)) = true then (
F_marks_Marks_Size N x3 x6 >>= fun _ =>
some (w64 (x7.tdiv 64), shlI .u64 1 ((IntKind.wrap .u64 x7).tmod 64), decide (x7 < x6)))
else (
some (w64 (x7.tdiv 64), shlI .u64 1 ((IntKind.wrap .u64 x7).tmod 64), false))) : Option (Int × Int × Bool)) >>= fun (x28, x29, x30) =>
some (x28, x29, x30)
def F_marks_Marks_Put (N : Nat)  (x3 : (List Int)) (x6 : Int) (x7 : Int) : Option ((List Int) × Bool) :=
F_marks_Marks_at N x3 x6 x7 >>= fun (x55, x56, x57) =>
((if (!x57) = true then (
some true)
else (
idx x3 x55 >>= fun x68 =>
some ((iand .u64 x68 x56) != 0))) : Option Bool) >>= fun x66 =>
if x66 = true then (
some (x3, false))
else (
idx x3 x55 >>= fun x76 =>
idx x3 x55 >>= fun _x83 =>
setI x3 x55 (ior .u64 x76 x56) >>= fun x90 =>
some (x90, true))
def F_sets_Set_Empty (_N : Nat)  (_x1 : Int) (_x2 : Int) (_x3 : Int) (_x4 : Int) : Option Unit :=
some ()
def F_nfa_Right_1 (_N : Nat)  (x1 : Int) (x3 : Int) : Option Bool :=
((if (decide (x1 < 0)) = true then (
some true)
else (
some (decide (x1 ≥ x3)))) : Option Bool) >>= fun x8 =>
some x8
def F_slices_IndexFunc_int_int_2_l0 (N : Nat) (x2 : (List Int)) (x5 : Int) (x142 : Int) : Option (Int ⊕ (Unit ⊕ Int)) :=
if (decide (x142 < (x2.length : Int))) = true then (
idx x2 x142 >>= fun x159 =>
F_nfa_Right_1 N x159 x5 >>= fun x168 =>
if x168 = true then (
some (.inr (.inr x142)))
else (
some (.inl (w64 (x142 + 1)))))
else (
some (.inr (.inl ())))
def F_slices_IndexFunc_int_int_2 (N : Nat)  (x2 : (List Int)) (x5 : Int) : Option Int :=
((iterO N (fun s => F_slices_IndexFunc_int_int_2_l0 N x2 x5 s) 0) : Option (Unit ⊕ Int)) >>= fun z => match z with
| .inr z => some z
| .inl _ =>
some (-1)
def F_slices_ContainsFunc_int_int_2 (N : Nat)  (x2 : (List Int)) (x5 : Int) : Option Bool :=
F_slices_IndexFunc_int_int_2 N x2 x5 >>= fun x13 =>
some (decide (x13 ≥ 0))
def F_nfa_Right_l0 (N : Nat) (x2 : (List ((List Int) × (Int × Int × Int × Int) × Int × Int))) (x847 : Int) : Option (Int ⊕ (Unit ⊕ Bool)) :=
if (decide (x847 < (x2.length : Int))) = true then (
idx x2 x847 >>= fun x932 =>
((if (x932.2.2.1 == (-1)) = true then (
F_sets_Set_Empty N x932.2.1.1 x932.2.1.2.1 x932.2.1.2.2.1 x932.2.1.2.2.2 >>= fun _ =>
if (([x932.2.1.1, x932.2.1.2.1, x932.2.1.2.2.1, x932.2.1.2.2.2] : List Int) == ([0, 0, 0, 0] : List Int)) = true then (
some true)
else (
F_nfa_Right_1 N x932.2.2.1 (x2.length : Int) >>= fun x993 =>
some (!x993)))
else (
F_nfa_Right_1 N x932.2.2.1 (x2.length : Int) >>= fun x997 =>
some (!x997))) : Option Bool) >>= fun x986 =>
((if (!x986) = true then (
some true)
else (
F_slices_ContainsFunc_int_int_2 N x932.1 (x2.length : Int) >>= fun x1008 =>
if x1008 = true then (
some true)
else (
if (decide (x932.2.2.2 < (-1))) = true then (
some true)
else (
some (decide (x932.2.2.2 ≥ 48)))))) : Option Bool) >>= fun x1004 =>
if x1004 = true then (
some (.inr (.inr false)))
else (
some (.inl (w64 (x847 + 1)))))
else (
some (.inr (.inl ())))
def F_nfa_Right (N : Nat)  (x2 : (List ((List Int) × (Int × Int × Int × Int) × Int × Int))) (x5 : (List Int)) : Option Bool :=
((iterO N (fun s => F_nfa_Right_l0 N x2 s) 0) : Option (Unit ⊕ Bool)) >>= fun z => match z with
| .inr z => some z
| .inl _ =>
((if (decide ((x5.length : Int) ≥ 1)) = true then (
some (decide ((x5.length : Int) ≤ 8)))
else (
some false)) : Option Bool) >>= fun x1012 =>
((if x1012 = true then (
if (decide ((x2.length : Int) ≥ 1)) = true then (
if (decide ((x2.length : Int) ≤ 4000)) = true then (
F_slices_ContainsFunc_int_int_2 N x5 (x2.length : Int) >>= fun x1023 =>
some (!x1023))
else (
some false))
else (
some false))
else (
some false)) : Option Bool) >>= fun x1019 =>
some x1019
def F_marks_Marks_own (_N : Nat)  (_x3 : (List Int)) (_x6 : Int) : Option Unit :=
some ()
def F_math_bits_TrailingZeros64 (_N : Nat)  (x1 : Int) : Option Int :=
if (x1 == 0) = true then (
some 64)
else (
idx tab_math_bits_deBruijn64tab (shrI .u64 (IntKind.wrap .u64 ((iand .u64 x1 (IntKind.wrap .u64 (0 - x1))) * 285870213051353865)) 58) >>= fun x5 =>
some (IntKind.wrap .i64 x5))
def F_marks_Marks_After_l0 (N : Nat) (x3 : (List Int)) (x6 : Int) (x7 : Int) (x410 : Int) : Option (Int ⊕ (Unit ⊕ Int)) :=
F_marks_Marks_own N x3 x6 >>= fun _ =>
if (decide (x410 < (x3.length : Int))) = true then (
((idx x3 x410 >>= fun x479 =>
((if (x410 == (w64 ((w64 ((imax x7 (-1)) + 1)).tdiv 64))) = true then (
nn ((w64 ((imax x7 (-1)) + 1)).tmod 64) >>= fun _x490 =>
nn ((w64 ((imax x7 (-1)) + 1)).tmod 64) >>= fun _x491 =>
some (shlI .u64 (shrI .u64 x479 ((w64 ((imax x7 (-1)) + 1)).tmod 64)) ((w64 ((imax x7 (-1)) + 1)).tmod 64)))
else (
some x479)) : Option Int) >>= fun x488 =>
if (x488 != 0) = true then (
F_math_bits_TrailingZeros64 N x488 >>= fun x495 =>
some (.inr (.inr (.inr (w64 ((w64 (64 * x410)) + x495))))))
else (
some (.inl ()))) : Option (Unit ⊕ (Int ⊕ (Unit ⊕ Int)))) >>= fun z => match z with
| .inr z => some z
| .inl _ =>
some (.inl (w64 (x410 + 1))))
else (
some (.inr (.inl ())))
def F_marks_Marks_After (N : Nat)  (x3 : (List Int)) (x6 : Int) (x7 : Int) : Option Int :=
F_marks_Marks_Size N x3 x6 >>= fun _ =>
if (decide (x7 ≥ x6)) = true then (
some (-1))
else (
((iterO N (fun s => F_marks_Marks_After_l0 N x3 x6 x7 s) (w64 ((w64 ((imax x7 (-1)) + 1)).tdiv 64))) : Option (Unit ⊕ Int)) >>= fun z => match z with
| .inr z => some z
| .inl _ =>
some (-1))
def F_marks_Marks_List_l0 (N : Nat) (x3 : (List Int)) (x6 : Int) (x214 : (List Int)) (x216 : Int) : Option (((List Int) × Int) ⊕ (List Int)) :=
if (decide (x216 ≥ 0)) = true then (
app x214 ([x216]) >>= fun x240 =>
F_marks_Marks_After N x3 x6 x216 >>= fun x248 =>
some (.inl (x240, x248)))
else (
some (.inr x214))
def F_marks_Marks_List (N : Nat)  (x3 : (List Int)) (x6 : Int) : Option (List Int) :=
F_marks_Marks_After N x3 x6 (-1) >>= fun x133 =>
((iterO N (fun s => F_marks_Marks_List_l0 N x3 x6 s.1 s.2) ([], x133)) : Option (List Int)) >>= fun x192 =>
some x192
def F_walk_walker_none (N : Nat)  (x2 : (List ((List Int) × (Int × Int × Int × Int) × Int × Int))) (_x5 : (List Int)) : Option (List Int) :=
F_marks_New N (x2.length : Int) >>= fun z => match z with
| .inl _ => (
none)
| .inr x29 => (
some x29)
def F_walk_walker_closed_1_l0 (N : Nat) (x2 : (List ((List Int) × (Int × Int × Int × Int) × Int × Int))) (x1651 : (List Int)) (x1654 : (List Int)) : Option (((List Int) × (List Int)) ⊕ ((List Int) × (List Int))) :=
if (decide ((x1651.length : Int) > 0)) = true then (
((idx x1651 (w64 ((x1651.length : Int) - 1)) >>= fun x1897 =>
slc x1651 0 (w64 ((x1651.length : Int) - 1)) >>= fun x1904 =>
F_marks_Marks_Put N x1654 (x2.length : Int) x1897 >>= fun (x1914, x1915) =>
((if x1915 = true then (
idx x2 x1897 >>= fun x1945 =>
app x1904 x1945.1 >>= fun x1958 =>
some x1958)
else (
some x1904)) : Option (List Int)) >>= fun x1942 =>
some (x1942, x1914)) : Option ((List Int) × (List Int))) >>= fun (x1891, x1894) =>
some (.inl (x1891, x1894)))
else (
some (.inr (x1651, x1654)))
def F_walk_walker_closed_1 (N : Nat)  (x2 : (List ((List Int) × (Int × Int × Int × Int) × Int × Int))) (x5 : (List Int)) (x8 : (List Int)) : Option ((List Int) × (List Int)) :=
F_walk_walker_none N x2 x5 >>= fun x1002 =>
((iterO N (fun s => F_walk_walker_closed_1_l0 N x2 s.1 s.2) (x8, x1002)) : Option ((List Int) × (List Int))) >>= fun (x1485, x1488) =>
some (x1485, x1488)
def F_walk_Closed_l0 (_N : Nat) (x2 : (List ((List Int) × (Int × Int × Int × Int) × Int × Int))) (x481 : (List Int)) (x769 : Int) (x772 : (List Int)) : Option ((Int × (List Int)) ⊕ (List Int)) :=
if (decide (x769 < (x481.length : Int))) = true then (
((idx x481 x769 >>= fun x881 =>
((if (decide (x881 < (x2.length : Int))) = true then (
app x772 ([x881]) >>= fun x903 =>
some x903)
else (
some x772)) : Option (List Int)) >>= fun x898 =>
some x898) : Option (List Int)) >>= fun x878 =>
some (.inl (w64 (x769 + 1), x878)))
else (
some (.inr x772))
def F_walk_Closed (N : Nat)  (x2 : (List ((List Int) × (Int × Int × Int × Int) × Int × Int))) (x5 : (List Int)) (x9 : (List Int)) (x12 : Int) : Option (Unit ⊕ (List Int)) :=
F_nfa_Right N x2 x5 >>= fun x475 =>
if (!x475) = true then (
some (.inl ()))
else (
F_marks_Marks_List N x9 x12 >>= fun x481 =>
((iterO N (fun s => F_walk_Closed_l0 N x2 x481 s.1 s.2) (0, [])) : Option (List Int)) >>= fun x697 =>
F_walk_walker_closed_1 N x2 x5 x697 >>= fun (_x919, x920) =>
some (.inr x920))
def F_marks_Marks_Size_1 (_N : Nat)  : Option Unit :=
some ()
def F_marks_Marks_own_1 (_N : Nat)  : Option Unit :=
some ()
def F_marks_Marks_After_1_l0 (N : Nat) (_x53 : Int) (x54 : Int) : Option ((Int × Int) ⊕ Unit) :=
F_marks_Marks_own_1 N >>= fun _ =>
if (decide (x54 < (([] : List Int).length : Int))) = true then (
none)
else (
some (.inr ()))
def F_marks_Marks_After_1 (N : Nat)  (x1 : Int) : Option Unit :=
F_marks_Marks_Size_1 N >>= fun _ =>
if (decide (x1 ≥ 0)) = true then (
some ())
else (
((iterO N (fun s => F_marks_Marks_After_1_l0 N s.1 s.2) (w64 ((imax x1 (-1)) + 1), w64 ((w64 ((imax x1 (-1)) + 1)).tdiv 64))) : Option Unit) >>= fun _ =>
some ())
def F_marks_Marks_List_1_l0 (_N : Nat) : Option (Unit ⊕ Unit) :=
some (.inr ())
def F_marks_Marks_List_1 (N : Nat)  : Option Unit :=
F_marks_Marks_After_1 N (-1) >>= fun _ =>
((iterO N (fun s => F_marks_Marks_List_1_l0 N) ()) : Option Unit) >>= fun _ =>
some ()
def F_walk_Closed_1_l0 (_N : Nat) (x2 : (List ((List Int) × (Int × Int × Int × Int) × Int × Int))) (x755 : Int) (x758 : (List Int)) : Option ((Int × (List Int)) ⊕ (List Int)) :=
if (decide (x755 < (([] : List Int).length : Int))) = true then (
((idx ([]) x755 >>= fun x867 =>
((if (decide (x867 < (x2.length : Int))) = true then (
app x758 ([x867]) >>= fun x889 =>
some x889)
else (
some x758)) : Option (List Int)) >>= fun x884 =>
some x884) : Option (List Int)) >>= fun x864 =>
some (.inl (w64 (x755 + 1), x864)))
else (
some (.inr x758))
def F_walk_Closed_1 (N : Nat)  (x2 : (List ((List Int) × (Int × Int × Int × Int) × Int × Int))) (x5 : (List Int)) : Option (Unit ⊕ (List Int)) :=
F_nfa_Right N x2 x5 >>= fun x465 =>
if (!x465) = true then (
some (.inl ()))
else (
F_marks_Marks_List_1 N >>= fun _ =>
((iterO N (fun s => F_walk_Closed_1_l0 N x2 s.1 s.2) (0, [])) : Option (List Int)) >>= fun x683 =>
F_walk_walker_closed_1 N x2 x5 x683 >>= fun (_x905, x906) =>
some (.inr x906))
def F_marks_Marks_Same (N : Nat)  (x3 : (List Int)) (x6 : Int) (x9 : (List Int)) (x12 : Int) : Option Bool :=
F_marks_Marks_List N x3 x6 >>= fun x36 =>
F_marks_Marks_List N x9 x12 >>= fun x43 =>
F_slices_Equal_int_int N x36 x43 >>= fun x48 =>
some x48
def F_marks_Marks_Has (N : Nat)  (x3 : (List Int)) (x6 : Int) (x7 : Int) : Option Bool :=
F_marks_Marks_at N x3 x6 x7 >>= fun (x34, x35, x36) =>
((if x36 = true then (
idx x3 x34 >>= fun x47 =>
some ((iand .u64 x47 x35) != 0))
else (
some false)) : Option Bool) >>= fun x45 =>
some x45
def F_marks_Marks_at_1 (N : Nat)  (x1 : Int) : Option (Int × Int × Bool) :=
((nn ((IntKind.wrap .u64 x1).tmod 64) >>= fun _x26 =>
if (decide (x1 ≥ 0)) = true then (
F_marks_Marks_Size_1 N >>= fun _ =>
some (w64 (x1.tdiv 64), shlI .u64 1 ((IntKind.wrap .u64 x1).tmod 64), decide (x1 < 0)))
else (
some (w64 (x1.tdiv 64), shlI .u64 1 ((IntKind.wrap .u64 x1).tmod 64), false))) : Option (Int × Int × Bool)) >>= fun (x22, x23, x24) =>
some (x22, x23, x24)
def F_marks_Marks_Has_1 (N : Nat)  (x1 : Int) : Option Unit :=
F_marks_Marks_at_1 N x1 >>= fun (_x12, _x13, x14) =>
((if x14 = true then (
none)
else (
some ())) : Option Unit) >>= fun _ =>
some ()
def F_dofferlaw16_WalkClosed_l0 (N : Nat) (x2 : (List ((List Int) × (Int × Int × Int × Int) × Int × Int))) (x8 : (List Int)) (x1550 : Int) (x1552 : (List Int)) : Option ((Int × (List Int)) ⊕ (List Int)) :=
if (decide (x1550 < (x8.length : Int))) = true then (
idx x8 x1550 >>= fun x1576 =>
F_marks_Marks_Put N x1552 (x2.length : Int) x1576 >>= fun (x1586, _x1587) =>
some (.inl (w64 (x1550 + 1), x1586)))
else (
some (.inr x1552))
def F_dofferlaw16_WalkClosed_l1 (N : Nat) (x2 : (List ((List Int) × (Int × Int × Int × Int) × Int × Int))) (x1596 : (List Int)) (x1636 : (List Int)) (x1692 : Int) : Option (Int ⊕ (Unit ⊕ Bool)) :=
if (decide (x1692 < (x1636.length : Int))) = true then (
idx x1636 x1692 >>= fun x1709 =>
F_marks_Marks_Has N x1596 (x2.length : Int) x1709 >>= fun x1718 =>
if (!x1718) = true then (
some (.inr (.inr false)))
else (
some (.inl (w64 (x1692 + 1)))))
else (
some (.inr (.inl ())))
def F_dofferlaw16_WalkClosed_l3 (N : Nat) (x2 : (List ((List Int) × (Int × Int × Int × Int) × Int × Int))) (x1596 : (List Int)) (x2086 : ((List Int) × (Int × Int × Int × Int) × Int × Int)) (x2152 : Int) : Option (Int ⊕ (Unit ⊕ (Unit ⊕ (Unit ⊕ Bool)))) :=
if (decide (x2152 < (x2086.1.length : Int))) = true then (
idx x2086.1 x2152 >>= fun x2169 =>
F_marks_Marks_Has N x1596 (x2.length : Int) x2169 >>= fun x2178 =>
if (!x2178) = true then (
some (.inr (.inr (.inr (.inr false)))))
else (
some (.inl (w64 (x2152 + 1)))))
else (
some (.inr (.inl ())))
def F_dofferlaw16_WalkClosed_l2 (N : Nat) (x2 : (List ((List Int) × (Int × Int × Int × Int) × Int × Int))) (x1596 : (List Int)) (x1740 : (List Int)) : Option (Unit ⊕ (Unit ⊕ Bool)) :=
if (decide (0 < (x1740.length : Int))) = true then (
idx x1740 0 >>= fun x2076 =>
((if (decide (x2076 < 0)) = true then (
some true)
else (
some (decide (x2076 ≥ (x2.length : Int))))) : Option Bool) >>= fun x2083 =>
if x2083 = true then (
some (.inr (.inr false)))
else (
idx x2 x2076 >>= fun x2086 =>
((iterO N (fun s => F_dofferlaw16_WalkClosed_l3 N x2 x1596 x2086 s) 0) : Option (Unit ⊕ (Unit ⊕ (Unit ⊕ Bool)))) >>= fun z => match z with
| .inr z => some z
| .inl _ =>
F_marks_Marks_Has_1 N x2076 >>= fun _ =>
some (.inr (.inr false))))
else (
some (.inr (.inl ())))
def F_dofferlaw16_WalkClosed_l5 (N : Nat) (x2 : (List ((List Int) × (Int × Int × Int × Int) × Int × Int))) (x1596 : (List Int)) (x2762 : ((List Int) × (Int × Int × Int × Int) × Int × Int)) (x2828 : Int) : Option (Int ⊕ (Unit ⊕ (Int ⊕ (Unit ⊕ Bool)))) :=
if (decide (x2828 < (x2762.1.length : Int))) = true then (
idx x2762.1 x2828 >>= fun x2845 =>
F_marks_Marks_Has N x1596 (x2.length : Int) x2845 >>= fun x2854 =>
if (!x2854) = true then (
some (.inr (.inr (.inr (.inr false)))))
else (
some (.inl (w64 (x2828 + 1)))))
else (
some (.inr (.inl ())))
def F_dofferlaw16_WalkClosed_l4 (N : Nat) (x2 : (List ((List Int) × (Int × Int × Int × Int) × Int × Int))) (x1596 : (List Int)) (x1733 : (List Int)) (x2189 : (List Int)) (x2637 : Int) : Option (Int ⊕ (Unit ⊕ Bool)) :=
if (decide (x2637 < (x2189.length : Int))) = true then (
idx x2189 x2637 >>= fun x2752 =>
((if (decide (x2752 < 0)) = true then (
some true)
else (
some (decide (x2752 ≥ (x2.length : Int))))) : Option Bool) >>= fun x2759 =>
if x2759 = true then (
some (.inr (.inr false)))
else (
idx x2 x2752 >>= fun x2762 =>
((iterO N (fun s => F_dofferlaw16_WalkClosed_l5 N x2 x1596 x2762 s) 0) : Option (Unit ⊕ (Int ⊕ (Unit ⊕ Bool)))) >>= fun z => match z with
| .inr z => some z
| .inl _ =>
F_marks_Marks_Has N x1733 (x2.length : Int) x2752 >>= fun x2859 =>
if (!x2859) = true then (
some (.inr (.inr false)))
else (
some (.inl (w64 (x2637 + 1))))))
else (
some (.inr (.inl ())))
def F_dofferlaw16_WalkClosed (N : Nat)  (x2 : (List ((List Int) × (Int × Int × Int × Int) × Int × Int))) (x5 : (List Int)) (x8 : (List Int)) (x10 : Int) : Option Bool :=
F_dofferlaw15_Of N x2 x5 40 >>= fun (x1444, x1445) =>
((if (!x1445) = true then (
some true)
else (
if (decide ((x8.length : Int) > 60)) = true then (
some true)
else (
F_dofferref15_Right N x1444 x5 >>= fun x1459 =>
some (!x1459)))) : Option Bool) >>= fun x1455 =>
if x1455 = true then (
some true)
else (
F_marks_New N (x2.length : Int) >>= fun z => match z with
| .inl _ => (
some false)
| .inr x1467 => (
((iterO N (fun s => F_dofferlaw16_WalkClosed_l0 N x2 x8 s.1 s.2) (0, x1467)) : Option (List Int)) >>= fun x1529 =>
F_walk_Closed N x2 x5 x1529 (x2.length : Int) >>= fun z => match z with
| .inl _ => (
F_walk_Closed_1 N x2 x5 >>= fun z => match z with
| .inl _ => (
((some ()) : Option Unit) >>= fun _ =>
some false)
| .inr _x1604 => (
((some ()) : Option Unit) >>= fun _ =>
some false))
| .inr x1596 => (
F_walk_Closed N x2 x5 x1596 (x2.length : Int) >>= fun z => match z with
| .inl _ => (
((some ()) : Option Unit) >>= fun _ =>
some false)
| .inr x1616 => (
((F_marks_Marks_Same N x1616 (x2.length : Int) x1596 (x2.length : Int) >>= fun x1629 =>
some (!x1629)) : Option Bool) >>= fun x1625 =>
if x1625 = true then (
some false)
else (
F_marks_Marks_List N x1529 (x2.length : Int) >>= fun x1636 =>
((iterO N (fun s => F_dofferlaw16_WalkClosed_l1 N x2 x1596 x1636 s) 0) : Option (Unit ⊕ Bool)) >>= fun z => match z with
| .inr z => some z
| .inl _ =>
F_marks_Marks_Put N x1529 (x2.length : Int) x10 >>= fun (x1724, _x1725) =>
F_walk_Closed N x2 x5 x1724 (x2.length : Int) >>= fun z => match z with
| .inl _ => (
F_marks_Marks_List N x1596 (x2.length : Int) >>= fun x1740 =>
((iterO N (fun s => F_dofferlaw16_WalkClosed_l2 N x2 x1596 x1740) ()) : Option (Unit ⊕ Bool)) >>= fun z => match z with
| .inr z => some z
| .inl _ =>
some true)
| .inr x1733 => (
F_marks_Marks_List N x1596 (x2.length : Int) >>= fun x2189 =>
((iterO N (fun s => F_dofferlaw16_WalkClosed_l4 N x2 x1596 x1733 x2189 s) 0) : Option (Unit ⊕ Bool)) >>= fun z => match z with
| .inr z => some z
| .inl _ =>
some true))))))
end Go.Proofs.YtealkahefalaeaaGreatDoor
