/-
  The pure functions, printed by my program: what each function of the code computes.
-/
import Derived.Test.YteiaphkejkgfkaaDoorTrimShortestE1
namespace Go.Proofs.YteiaphkejkgfkaaDoor
open Go Go.Eng
set_option maxRecDepth 100000
def tab_math_bits_deBruijn64tab : List Int := [0, 1, 56, 2, 57, 49, 28, 3, 61, 58, 42, 50, 38, 29, 17, 4, 62, 47, 59, 36, 45, 43, 51, 22, 53, 39, 33, 30, 24, 18, 12, 5, 63, 55, 48, 27, 60, 41, 37, 16, 46, 35, 44, 21, 52, 32, 23, 11, 54, 26, 40, 15, 34, 20, 31, 10, 25, 14, 19, 9, 13, 8, 7, 6]
def F_subset_Right_1 (_N : Nat) (x1 : Int) (x3 : Int) : Option Bool :=
((if (decide (x1 < 0)) = true then (
some true)
else (
some (decide (x1 ≥ x3)))) : Option Bool) >>= fun x8 =>
some x8
def F_slices_IndexFunc_int_int_l0 (N : Nat) (x2 : (List Int)) (x5 : Int) (x142 : Int) : Option (Int ⊕ (Unit ⊕ Int)) :=
if (decide (x142 < (x2.length : Int))) = true then (
idx x2 x142 >>= fun x159 =>
F_subset_Right_1 N x159 x5 >>= fun x168 =>
if x168 = true then (
some (.inr (.inr x142)))
else (
some (.inl (w64 (x142 + 1)))))
else (
some (.inr (.inl ())))
def F_slices_IndexFunc_int_int (N : Nat) (x2 : (List Int)) (x5 : Int) : Option Int :=
((iterO N (fun s => F_slices_IndexFunc_int_int_l0 N x2 x5 s) 0) : Option (Unit ⊕ Int)) >>= fun z => match z with
| .inr z => some z
| .inl _ =>
some (-1)
def F_slices_ContainsFunc_int_int (N : Nat) (x2 : (List Int)) (x5 : Int) : Option Bool :=
F_slices_IndexFunc_int_int N x2 x5 >>= fun x13 =>
some (decide (x13 ≥ 0))
def F_subset_Right_2 (_N : Nat) (x1 : Int) : Option Bool :=
((if (decide (x1 < (-1))) = true then (
some true)
else (
some (decide (x1 ≥ 48)))) : Option Bool) >>= fun x6 =>
some x6
def F_slices_IndexFunc_int_int_1_l0 (N : Nat) (x2 : (List Int)) (x140 : Int) : Option (Int ⊕ (Unit ⊕ Int)) :=
if (decide (x140 < (x2.length : Int))) = true then (
idx x2 x140 >>= fun x157 =>
F_subset_Right_2 N x157 >>= fun x166 =>
if x166 = true then (
some (.inr (.inr x140)))
else (
some (.inl (w64 (x140 + 1)))))
else (
some (.inr (.inl ())))
def F_slices_IndexFunc_int_int_1 (N : Nat) (x2 : (List Int)) : Option Int :=
((iterO N (fun s => F_slices_IndexFunc_int_int_1_l0 N x2 s) 0) : Option (Unit ⊕ Int)) >>= fun z => match z with
| .inr z => some z
| .inl _ =>
some (-1)
def F_slices_ContainsFunc_int_int_1 (N : Nat) (x2 : (List Int)) : Option Bool :=
F_slices_IndexFunc_int_int_1 N x2 >>= fun x11 =>
some (decide (x11 ≥ 0))
def F_subset_Right_l0 (N : Nat) (x2 : (List (List Int))) (x242 : Int) : Option (Int ⊕ (Unit ⊕ Bool)) :=
if (decide (x242 < (x2.length : Int))) = true then (
idx x2 x242 >>= fun x262 =>
F_slices_ContainsFunc_int_int N x262 (x2.length : Int) >>= fun x274 =>
if x274 = true then (
some (.inr (.inr false)))
else (
some (.inl (w64 (x242 + 1)))))
else (
some (.inr (.inl ())))
def F_subset_Right (N : Nat) (x2 : (List (List Int))) (x5 : (List Int)) (x8 : (List Int)) : Option Bool :=
((if (decide ((x2.length : Int) < 1)) = true then (
some true)
else (
if (decide ((x2.length : Int) > 200)) = true then (
some true)
else (
if ((x5.length : Int) != (x2.length : Int)) = true then (
some true)
else (
if (decide ((x8.length : Int) < 1)) = true then (
some true)
else (
some (decide ((x8.length : Int) > 8))))))) : Option Bool) >>= fun x174 =>
if x174 = true then (
some false)
else (
((iterO N (fun s => F_subset_Right_l0 N x2 s) 0) : Option (Unit ⊕ Bool)) >>= fun z => match z with
| .inr z => some z
| .inl _ =>
((F_slices_ContainsFunc_int_int_1 N x5 >>= fun x289 =>
if x289 = true then (
some true)
else (
F_slices_ContainsFunc_int_int N x8 (x2.length : Int) >>= fun x293 =>
some x293)) : Option Bool) >>= fun x285 =>
if x285 = true then (
some false)
else (
((idx x2 0 >>= fun x312 =>
if (x312 == (List.replicate 256 0)) = true then (
idx x5 0 >>= fun x319 =>
some (x319 == (-1)))
else (
some false)) : Option Bool) >>= fun x310 =>
some x310))
def F_marks_New (_N : Nat) (x1 : Int) : Option (Unit ⊕ (List Int)) :=
((if (decide (x1 < 0)) = true then (
some true)
else (
some (decide (x1 > 65536)))) : Option Bool) >>= fun x16 =>
if x16 = true then (
some (.inl ()))
else (
mk 0 (w64 ((w64 ((w64 (x1 + 64)) - 1)).tdiv 64)) >>= fun x19 =>
some (.inr x19))
def F_marks_Marks_Size (_N : Nat) (_x3 : (List Int)) (_x6 : Int) : Option Unit :=
some ()
def F_marks_Marks_at (N : Nat) (x3 : (List Int)) (x6 : Int) (x7 : Int) : Option (Int × Int × Bool) :=
((nn ((IntKind.wrap .u64 x7).tmod 64) >>= fun _x32 =>
if (decide (x7 ≥ 0)) = true then (
F_marks_Marks_Size N x3 x6 >>= fun _ =>
some (w64 (x7.tdiv 64), shlI .u64 1 ((IntKind.wrap .u64 x7).tmod 64), decide (x7 < x6)))
else (
some (w64 (x7.tdiv 64), shlI .u64 1 ((IntKind.wrap .u64 x7).tmod 64), false))) : Option (Int × Int × Bool)) >>= fun (x28, x29, x30) =>
some (x28, x29, x30)
def F_marks_Marks_Put (N : Nat) (x3 : (List Int)) (x6 : Int) (x7 : Int) : Option ((List Int) × Bool) :=
F_marks_Marks_at N x3 x6 x7 >>= fun (x55, x56, x57) =>
((if (!x57) = true then (
some true)
else (
idx x3 x55 >>= fun x68 =>
some ((iand .u64 x68 x56) != 0))) : Option Bool) >>= fun x66 =>
if x66 = true then (
some (x3, false))
else (
idx x3 x55 >>= fun x76 =>
idx x3 x55 >>= fun _x83 =>
setI x3 x55 (ior .u64 x76 x56) >>= fun x90 =>
some (x90, true))
def F_doffernum_SameInts_l0 (_N : Nat) (x2 : (List Int)) (x5 : (List Int)) (x173 : Int) : Option (Int ⊕ (Unit ⊕ Bool)) :=
if (decide (x173 < (x2.length : Int))) = true then (
idx x2 x173 >>= fun x193 =>
idx x5 x173 >>= fun x200 =>
if (x193 != x200) = true then (
some (.inr (.inr false)))
else (
some (.inl (w64 (x173 + 1)))))
else (
some (.inr (.inl ())))
def F_doffernum_SameInts (N : Nat) (x2 : (List Int)) (x5 : (List Int)) : Option Bool :=
if ((x2.length : Int) != (x5.length : Int)) = true then (
some false)
else (
((iterO N (fun s => F_doffernum_SameInts_l0 N x2 x5 s) 0) : Option (Unit ⊕ Bool)) >>= fun z => match z with
| .inr z => some z
| .inl _ =>
some true)
def F_dofferlaw17_Of_l0 (_N : Nat) (x2 : (List (List Int))) (x302 : Int) (x305 : (List (List Int))) : Option ((Int × (List (List Int))) ⊕ (List (List Int))) :=
if (decide (x302 < (x2.length : Int))) = true then (
idx x2 x302 >>= fun x335 =>
app x305 ([x335]) >>= fun x347 =>
some (.inl (w64 (x302 + 1), x347)))
else (
some (.inr x305))
def F_dofferlaw17_Of (N : Nat) (x2 : (List (List Int))) (x5 : (List Int)) (x8 : (List Int)) (x10 : Int) : Option ((List (List Int)) × Bool) :=
((if (decide ((x2.length : Int) > x10)) = true then (
some true)
else (
if (decide ((x5.length : Int) > x10)) = true then (
some true)
else (
some (decide ((x8.length : Int) > 20))))) : Option Bool) >>= fun x193 =>
if x193 = true then (
some ([], false))
else (
((iterO N (fun s => F_dofferlaw17_Of_l0 N x2 s.1 s.2) (0, [])) : Option (List (List Int))) >>= fun x275 =>
some (x275, true))
def F_dofferref17_Right_l1 (_N : Nat) (x2 : (List (List Int))) (x939 : Int) (x1026 : (List Int)) (x1092 : Int) : Option (Int ⊕ (Unit ⊕ (Int ⊕ (Unit ⊕ Bool)))) :=
if (decide (x1092 < 256)) = true then (
idx x1026 x1092 >>= fun x1102 =>
((if (decide (x1102 < 0)) = true then (
some true)
else (
if (decide (x1102 ≥ (x2.length : Int))) = true then (
some true)
else (
if (x939 == 0) = true then (
some (x1102 != 0))
else (
some false)))) : Option Bool) >>= fun x1103 =>
if x1103 = true then (
some (.inr (.inr (.inr (.inr false)))))
else (
some (.inl (w64 (x1092 + 1)))))
else (
some (.inr (.inl ())))
def F_dofferref17_Right_l0 (N : Nat) (x2 : (List (List Int))) (x5 : (List Int)) (x939 : Int) : Option (Int ⊕ (Unit ⊕ Bool)) :=
if (decide (x939 < (x2.length : Int))) = true then (
idx x2 x939 >>= fun x1026 =>
((idx x5 x939 >>= fun x1052 =>
if (decide (x1052 < (-1))) = true then (
some true)
else (
idx x5 x939 >>= fun x1059 =>
some (decide (x1059 > 47)))) : Option Bool) >>= fun x1050 =>
if x1050 = true then (
some (.inr (.inr false)))
else (
((iterO N (fun s => F_dofferref17_Right_l1 N x2 x939 x1026 s) 0) : Option (Unit ⊕ (Int ⊕ (Unit ⊕ Bool)))) >>= fun z => match z with
| .inr z => some z
| .inl _ =>
some (.inl (w64 (x939 + 1)))))
else (
some (.inr (.inl ())))
def F_dofferref17_Right_l2 (_N : Nat) (x2 : (List (List Int))) (x8 : (List Int)) (x1157 : Int) : Option (Int ⊕ (Unit ⊕ Bool)) :=
if (decide (x1157 < (x8.length : Int))) = true then (
idx x8 x1157 >>= fun x1173 =>
((if (decide (x1173 < 0)) = true then (
some true)
else (
some (decide (x1173 ≥ (x2.length : Int))))) : Option Bool) >>= fun x1180 =>
if x1180 = true then (
some (.inr (.inr false)))
else (
some (.inl (w64 (x1157 + 1)))))
else (
some (.inr (.inl ())))
def F_dofferref17_Right (N : Nat) (x2 : (List (List Int))) (x5 : (List Int)) (x8 : (List Int)) : Option Bool :=
((if (decide ((x2.length : Int) < 1)) = true then (
some true)
else (
if (decide ((x2.length : Int) > 200)) = true then (
some true)
else (
if ((x5.length : Int) != (x2.length : Int)) = true then (
some true)
else (
if (decide ((x8.length : Int) < 1)) = true then (
some true)
else (
some (decide ((x8.length : Int) > 8))))))) : Option Bool) >>= fun x603 =>
if x603 = true then (
some false)
else (
((iterO N (fun s => F_dofferref17_Right_l0 N x2 x5 s) 0) : Option (Unit ⊕ Bool)) >>= fun z => match z with
| .inr z => some z
| .inl _ =>
((iterO N (fun s => F_dofferref17_Right_l2 N x2 x8 s) 0) : Option (Unit ⊕ Bool)) >>= fun z => match z with
| .inr z => some z
| .inl _ =>
idx x5 0 >>= fun x1184 =>
some (x1184 == (-1)))
def F_marks_Marks_own (_N : Nat) (_x3 : (List Int)) (_x6 : Int) : Option Unit :=
some ()
def F_subset_DFA_begin (_N : Nat) (_x2 : (List (List Int))) (_x5 : (List Int)) (x8 : (List Int)) (x10 : Int) : Option Int :=
((if (decide (x10 < 0)) = true then (
some true)
else (
some (decide (x10 ≥ (x8.length : Int))))) : Option Bool) >>= fun x26 =>
if x26 = true then (
some 0)
else (
idx x8 x10 >>= fun x29 =>
some x29)
def F_subset_DFA_next (_N : Nat) (x2 : (List (List Int))) (_x5 : (List Int)) (_x8 : (List Int)) (x10 : Int) (x11 : Int) : Option Int :=
((if (decide (x10 < 0)) = true then (
some true)
else (
some (decide (x10 ≥ (x2.length : Int))))) : Option Bool) >>= fun x32 =>
if x32 = true then (
some 0)
else (
idx x2 x10 >>= fun x35 =>
idx x35 x11 >>= fun x42 =>
some x42)
def F_subset_DFA_Run_l0 (N : Nat) (x2 : (List (List Int))) (x5 : (List Int)) (x8 : (List Int)) (x12 : (List Int)) (x189 : Int) (x190 : Int) : Option ((Int × Int) ⊕ Int) :=
if (decide (x189 < (x12.length : Int))) = true then (
idx x12 x189 >>= fun x208 =>
F_subset_DFA_next N x2 x5 x8 x190 x208 >>= fun x217 =>
some (.inl (w64 (x189 + 1), x217)))
else (
some (.inr x190))
def F_subset_DFA_Run (N : Nat) (x2 : (List (List Int))) (x5 : (List Int)) (x8 : (List Int)) (x10 : Int) (x12 : (List Int)) : Option Int :=
F_subset_Right N x2 x5 x8 >>= fun x125 =>
if (!x125) = true then (
some (-1))
else (
F_subset_DFA_begin N x2 x5 x8 x10 >>= fun x129 =>
((iterO N (fun s => F_subset_DFA_Run_l0 N x2 x5 x8 x12 s.1 s.2) (0, x129)) : Option Int) >>= fun x174 =>
idx x5 x174 >>= fun x220 =>
some x220)
def F_trim_marked_l0 (N : Nat) (x2 : (List (List Int))) (x11 : (List Int)) (x239 : Int) (x241 : (List Int)) : Option ((Int × (List Int)) ⊕ (List Int)) :=
if (decide (x239 < (x11.length : Int))) = true then (
idx x11 x239 >>= fun x265 =>
F_marks_Marks_Put N x241 (x2.length : Int) x265 >>= fun (x275, _x276) =>
some (.inl (w64 (x239 + 1), x275)))
else (
some (.inr x241))
def F_trim_marked (N : Nat) (x2 : (List (List Int))) (_x5 : (List Int)) (_x8 : (List Int)) (x11 : (List Int)) : Option (Unit ⊕ (List Int)) :=
F_marks_New N (x2.length : Int) >>= fun z => match z with
| .inl _ => (
some (.inl ()))
| .inr x156 => (
((iterO N (fun s => F_trim_marked_l0 N x2 x11 s.1 s.2) (0, x156)) : Option (List Int)) >>= fun x218 =>
some (.inr x218))
def F_clone_82 (_N : Nat) (x : (List Int)) : Option (List Int) := app [] x
def F_marks_Marks_Size_1 (_N : Nat) : Option Unit :=
some ()
def F_marks_Marks_at_1 (N : Nat) (x1 : Int) : Option (Int × Int × Bool) :=
((nn ((IntKind.wrap .u64 x1).tmod 64) >>= fun _x26 =>
if (decide (x1 ≥ 0)) = true then (
F_marks_Marks_Size_1 N >>= fun _ =>
some (w64 (x1.tdiv 64), shlI .u64 1 ((IntKind.wrap .u64 x1).tmod 64), decide (x1 < 0)))
else (
some (w64 (x1.tdiv 64), shlI .u64 1 ((IntKind.wrap .u64 x1).tmod 64), false))) : Option (Int × Int × Bool)) >>= fun (x22, x23, x24) =>
some (x22, x23, x24)
def F_marks_Marks_Put_1 (N : Nat) (x1 : Int) : Option Unit :=
F_marks_Marks_at_1 N x1 >>= fun (_x12, _x13, x14) =>
((if (!x14) = true then (
some ())
else (
none)) : Option Unit) >>= fun _ =>
some ()
def F_trim_reached_l0 (N : Nat) (x1374 : (List Int)) : Option ((List Int) ⊕ Unit) :=
if (decide ((x1374.length : Int) > 0)) = true then (
((idx x1374 0 >>= fun x1452 =>
slc x1374 1 (x1374.length : Int) >>= fun x1459 =>
F_marks_Marks_Put_1 N x1452 >>= fun _ =>
((some ()) : Option Unit) >>= fun _ =>
some x1459) : Option (List Int)) >>= fun x1449 =>
some (.inl x1449))
else (
some (.inr ()))
def F_trim_reached_l1 (N : Nat) (x2 : (List (List Int))) (x2025 : (List Int)) (x2029 : (List Int)) : Option (((List Int) × (List Int)) ⊕ (List Int)) :=
if (decide ((x2029.length : Int) > 0)) = true then (
((idx x2029 0 >>= fun x2236 =>
slc x2029 1 (x2029.length : Int) >>= fun x2243 =>
F_marks_Marks_Put N x2025 (x2.length : Int) x2236 >>= fun (x2253, x2254) =>
((if x2254 = true then (
idx x2 x2236 >>= fun x2278 =>
app x2243 x2278 >>= fun x2285 =>
some x2285)
else (
some x2243)) : Option (List Int)) >>= fun x2275 =>
some (x2253, x2275)) : Option ((List Int) × (List Int))) >>= fun (x2229, x2233) =>
some (.inl (x2229, x2233)))
else (
some (.inr x2025))
def F_trim_reached (N : Nat) (x2 : (List (List Int))) (x5 : (List Int)) (x8 : (List Int)) : Option (Unit ⊕ (List Int)) :=
F_trim_marked N x2 x5 x8 ([0]) >>= fun z => match z with
| .inl _ => (
F_clone_82 N x8 >>= fun x1172 =>
((iterO N (fun s => F_trim_reached_l0 N s) x1172) : Option Unit) >>= fun _ =>
some (.inl ()))
| .inr x1165 => (
F_clone_82 N x8 >>= fun x1477 =>
((iterO N (fun s => F_trim_reached_l1 N x2 s.1 s.2) (x1165, x1477)) : Option (List Int)) >>= fun x1887 =>
some (.inr x1887))
def F_marks_Marks_own_1 (_N : Nat) : Option Unit :=
some ()
def F_marks_Marks_After_l0 (N : Nat) (_x53 : Int) (x54 : Int) : Option ((Int × Int) ⊕ Unit) :=
F_marks_Marks_own_1 N >>= fun _ =>
if (decide (x54 < (([] : List Int).length : Int))) = true then (
none)
else (
some (.inr ()))
def F_marks_Marks_After (N : Nat) (x1 : Int) : Option Unit :=
F_marks_Marks_Size_1 N >>= fun _ =>
if (decide (x1 ≥ 0)) = true then (
some ())
else (
((iterO N (fun s => F_marks_Marks_After_l0 N s.1 s.2) (w64 ((imax x1 (-1)) + 1), w64 ((w64 ((imax x1 (-1)) + 1)).tdiv 64))) : Option Unit) >>= fun _ =>
some ())
def F_marks_Marks_List_l0 (N : Nat) (x186 : (List Int)) : Option ((List Int) ⊕ (List Int)) :=
if (decide ((-1) ≥ 0)) = true then (
app x186 ([(-1)]) >>= fun x209 =>
F_marks_Marks_After N (-1) >>= fun _ =>
some (.inl x209))
else (
some (.inr x186))
def F_marks_Marks_List (N : Nat) : Option (List Int) :=
F_marks_Marks_After N (-1) >>= fun _ =>
((iterO N (fun s => F_marks_Marks_List_l0 N s) ([])) : Option (List Int)) >>= fun x166 =>
some x166
def F_math_bits_TrailingZeros64 (_N : Nat) (x1 : Int) : Option Int :=
if (x1 == 0) = true then (
some 64)
else (
idx tab_math_bits_deBruijn64tab (shrI .u64 (IntKind.wrap .u64 ((iand .u64 x1 (IntKind.wrap .u64 (0 - x1))) * 285870213051353865)) 58) >>= fun x5 =>
some (IntKind.wrap .i64 x5))
def F_marks_Marks_After_1_l0 (N : Nat) (x3 : (List Int)) (x6 : Int) (x7 : Int) (x410 : Int) : Option (Int ⊕ (Unit ⊕ Int)) :=
F_marks_Marks_own N x3 x6 >>= fun _ =>
if (decide (x410 < (x3.length : Int))) = true then (
((idx x3 x410 >>= fun x479 =>
((if (x410 == (w64 ((w64 ((imax x7 (-1)) + 1)).tdiv 64))) = true then (
nn ((w64 ((imax x7 (-1)) + 1)).tmod 64) >>= fun _x490 =>
nn ((w64 ((imax x7 (-1)) + 1)).tmod 64) >>= fun _x491 =>
some (shlI .u64 (shrI .u64 x479 ((w64 ((imax x7 (-1)) + 1)).tmod 64)) ((w64 ((imax x7 (-1)) + 1)).tmod 64)))
else (
some x479)) : Option Int) >>= fun x488 =>
if (x488 != 0) = true then (
F_math_bits_TrailingZeros64 N x488 >>= fun x495 =>
some (.inr (.inr (.inr (w64 ((w64 (64 * x410)) + x495))))))
else (
some (.inl ()))) : Option (Unit ⊕ (Int ⊕ (Unit ⊕ Int)))) >>= fun z => match z with
| .inr z => some z
| .inl _ =>
some (.inl (w64 (x410 + 1))))
else (
some (.inr (.inl ())))
def F_marks_Marks_After_1 (N : Nat) (x3 : (List Int)) (x6 : Int) (x7 : Int) : Option Int :=
F_marks_Marks_Size N x3 x6 >>= fun _ =>
if (decide (x7 ≥ x6)) = true then (
some (-1))
else (
((iterO N (fun s => F_marks_Marks_After_1_l0 N x3 x6 x7 s) (w64 ((w64 ((imax x7 (-1)) + 1)).tdiv 64))) : Option (Unit ⊕ Int)) >>= fun z => match z with
| .inr z => some z
| .inl _ =>
some (-1))
def F_marks_Marks_List_1_l0 (N : Nat) (x3 : (List Int)) (x6 : Int) (x214 : (List Int)) (x216 : Int) : Option (((List Int) × Int) ⊕ (List Int)) :=
if (decide (x216 ≥ 0)) = true then (
app x214 ([x216]) >>= fun x240 =>
F_marks_Marks_After_1 N x3 x6 x216 >>= fun x248 =>
some (.inl (x240, x248)))
else (
some (.inr x214))
def F_marks_Marks_List_1 (N : Nat) (x3 : (List Int)) (x6 : Int) : Option (List Int) :=
F_marks_Marks_After_1 N x3 x6 (-1) >>= fun x133 =>
((iterO N (fun s => F_marks_Marks_List_1_l0 N x3 x6 s.1 s.2) ([], x133)) : Option (List Int)) >>= fun x192 =>
some x192
def F_trim_Reached (N : Nat) (x2 : (List (List Int))) (x5 : (List Int)) (x8 : (List Int)) : Option (List Int) :=
F_subset_Right N x2 x5 x8 >>= fun x46 =>
if (!x46) = true then (
some ([]))
else (
F_trim_reached N x2 x5 x8 >>= fun z => match z with
| .inl _ => (
F_marks_Marks_List N >>= fun x60 =>
some x60)
| .inr x53 => (
F_marks_Marks_List_1 N x53 (x2.length : Int) >>= fun x67 =>
some x67))
def F_marks_Marks_Has (N : Nat) (x1 : Int) : Option Unit :=
F_marks_Marks_at_1 N x1 >>= fun (_x12, _x13, x14) =>
((if x14 = true then (
none)
else (
some ())) : Option Unit) >>= fun _ =>
some ()
def F_trim_live_1 (N : Nat) (x1 : Int) : Option Unit :=
F_marks_Marks_Has N x1 >>= fun _ =>
some ()
def F_slices_IndexFunc_int_int_2_l0 (N : Nat) (x2 : (List Int)) (x130 : Int) : Option (Int ⊕ Unit) :=
if (decide (x130 < (x2.length : Int))) = true then (
idx x2 x130 >>= fun x146 =>
F_trim_live_1 N x146 >>= fun _ =>
some (.inl (w64 (x130 + 1))))
else (
some (.inr ()))
def F_slices_IndexFunc_int_int_2 (N : Nat) (x2 : (List Int)) : Option Unit :=
((iterO N (fun s => F_slices_IndexFunc_int_int_2_l0 N x2 s) 0) : Option Unit) >>= fun _ =>
some ()
def F_slices_ContainsFunc_int_int_2 (N : Nat) (x2 : (List Int)) : Option Unit :=
F_slices_IndexFunc_int_int_2 N x2 >>= fun _ =>
some ()
def F_marks_Marks_Has_1 (N : Nat) (x3 : (List Int)) (x6 : Int) (x7 : Int) : Option Bool :=
F_marks_Marks_at N x3 x6 x7 >>= fun (x34, x35, x36) =>
((if x36 = true then (
idx x3 x34 >>= fun x47 =>
some ((iand .u64 x47 x35) != 0))
else (
some false)) : Option Bool) >>= fun x45 =>
some x45
def F_trim_live_1_1 (N : Nat) (x1 : Int) (x5 : (List Int)) (x8 : Int) : Option Bool :=
F_marks_Marks_Has_1 N x5 x8 x1 >>= fun x16 =>
some x16
def F_slices_IndexFunc_int_int_3_l0 (N : Nat) (x2 : (List Int)) (x7 : (List Int)) (x10 : Int) (x147 : Int) : Option (Int ⊕ (Unit ⊕ Int)) :=
if (decide (x147 < (x2.length : Int))) = true then (
idx x2 x147 >>= fun x164 =>
F_trim_live_1_1 N x164 x7 x10 >>= fun x173 =>
if x173 = true then (
some (.inr (.inr x147)))
else (
some (.inl (w64 (x147 + 1)))))
else (
some (.inr (.inl ())))
def F_slices_IndexFunc_int_int_3 (N : Nat) (x2 : (List Int)) (x7 : (List Int)) (x10 : Int) : Option Int :=
((iterO N (fun s => F_slices_IndexFunc_int_int_3_l0 N x2 x7 x10 s) 0) : Option (Unit ⊕ Int)) >>= fun z => match z with
| .inr z => some z
| .inl _ =>
some (-1)
def F_slices_ContainsFunc_int_int_3 (N : Nat) (x2 : (List Int)) (x7 : (List Int)) (x10 : Int) : Option Bool :=
F_slices_IndexFunc_int_int_3 N x2 x7 x10 >>= fun x18 =>
some (decide (x18 ≥ 0))
def F_trim_live_l0 (N : Nat) (x5 : (List Int)) (x7481 : Int) : Option (Int ⊕ Unit) :=
if (decide (x7481 < (x5.length : Int))) = true then (
((idx x5 x7481 >>= fun x7535 =>
((if (x7535 != (-1)) = true then (
F_marks_Marks_Put_1 N x7481 >>= fun _ =>
some ())
else (
some ())) : Option Unit) >>= fun _ =>
some ()) : Option Unit) >>= fun _ =>
some (.inl (w64 (x7481 + 1))))
else (
some (.inr ()))
def F_trim_live_l2 (N : Nat) (x2 : (List (List Int))) (x10070 : Int) : Option (Int ⊕ Unit) :=
if (decide (x10070 < (x2.length : Int))) = true then (
((idx x2 x10070 >>= fun x10185 =>
((F_marks_Marks_Has N x10070 >>= fun _ =>
F_slices_ContainsFunc_int_int_2 N x10185 >>= fun _ =>
some ()) : Option Unit) >>= fun _ =>
((if (decide ((-1) ≥ 0)) = true then (
F_marks_Marks_Put_1 N x10070 >>= fun _ =>
some ())
else (
some ())) : Option Unit) >>= fun _ =>
some x10185) : Option (List Int)) >>= fun _x10181 =>
some (.inl (w64 (x10070 + 1))))
else (
some (.inr ()))
def F_trim_live_l1 (N : Nat) (x2 : (List (List Int))) (x9329 : Bool) : Option (Bool ⊕ Unit) :=
if x9329 = true then (
((iterO N (fun s => F_trim_live_l2 N x2 s) 0) : Option Unit) >>= fun _ =>
some (.inl false))
else (
some (.inr ()))
def F_trim_live_l3 (N : Nat) (x2 : (List (List Int))) (x5 : (List Int)) (x10475 : Int) (x10477 : (List Int)) : Option ((Int × (List Int)) ⊕ (List Int)) :=
if (decide (x10475 < (x5.length : Int))) = true then (
((idx x5 x10475 >>= fun x10574 =>
((if (x10574 != (-1)) = true then (
F_marks_Marks_Put N x10477 (x2.length : Int) x10475 >>= fun (x10595, _x10596) =>
some x10595)
else (
some x10477)) : Option (List Int)) >>= fun x10589 =>
some x10589) : Option (List Int)) >>= fun x10571 =>
some (.inl (w64 (x10475 + 1), x10571)))
else (
some (.inr x10477))
def F_trim_live_l5 (N : Nat) (x2 : (List (List Int))) (x14424 : (List Int)) (x14426 : Int) (x14427 : Bool) : Option (((List Int) × Int × Bool) ⊕ ((List Int) × Bool)) :=
if (decide (x14426 < (x2.length : Int))) = true then (
((idx x2 x14426 >>= fun x14595 =>
((F_marks_Marks_Has_1 N x14424 (x2.length : Int) x14426 >>= fun x14617 =>
if (!x14617) = true then (
F_slices_ContainsFunc_int_int_3 N x14595 x14424 (x2.length : Int) >>= fun x14621 =>
some x14621)
else (
some false)) : Option Bool) >>= fun x14613 =>
((if x14613 = true then (
F_marks_Marks_Put N x14424 (x2.length : Int) x14426 >>= fun (x14639, x14640) =>
some (x14639, x14640))
else (
some (x14424, x14427))) : Option ((List Int) × Bool)) >>= fun (x14632, x14634) =>
some (x14632, x14634)) : Option ((List Int) × Bool)) >>= fun (x14591, x14593) =>
some (.inl (x14591, w64 (x14426 + 1), x14593)))
else (
some (.inr (x14424, x14427)))
def F_trim_live_l4 (N : Nat) (x2 : (List (List Int))) (x13299 : (List Int)) (x13301 : Bool) : Option (((List Int) × Bool) ⊕ (List Int)) :=
if x13301 = true then (
((iterO N (fun s => F_trim_live_l5 N x2 s.1 s.2.1 s.2.2) (x13299, 0, false)) : Option ((List Int) × Bool)) >>= fun (x14310, x14312) =>
some (.inl (x14310, x14312)))
else (
some (.inr x13299))
def F_trim_live (N : Nat) (x2 : (List (List Int))) (x5 : (List Int)) (x8 : (List Int)) : Option (Unit ⊕ (List Int)) :=
F_trim_marked N x2 x5 x8 [] >>= fun z => match z with
| .inl _ => (
((iterO N (fun s => F_trim_live_l0 N x5 s) 0) : Option Unit) >>= fun _ =>
((iterO N (fun s => F_trim_live_l1 N x2 s) true) : Option Unit) >>= fun _ =>
some (.inl ()))
| .inr x7338 => (
((iterO N (fun s => F_trim_live_l3 N x2 x5 s.1 s.2) (0, x7338)) : Option (List Int)) >>= fun x10411 =>
((iterO N (fun s => F_trim_live_l4 N x2 s.1 s.2) (x10411, true)) : Option (List Int)) >>= fun x12623 =>
some (.inr x12623))
def F_trim_Live (N : Nat) (x2 : (List (List Int))) (x5 : (List Int)) (x8 : (List Int)) : Option (List Int) :=
F_subset_Right N x2 x5 x8 >>= fun x46 =>
if (!x46) = true then (
some ([]))
else (
F_trim_live N x2 x5 x8 >>= fun z => match z with
| .inl _ => (
F_marks_Marks_List N >>= fun x60 =>
some x60)
| .inr x53 => (
F_marks_Marks_List_1 N x53 (x2.length : Int) >>= fun x67 =>
some x67))
def F_trim_kept_l0 (N : Nat) (x1688 : (List Int)) (x1844 : Int) : Option (Int ⊕ Unit) :=
if (decide (x1844 < (x1688.length : Int))) = true then (
((idx x1688 x1844 >>= fun x1904 =>
((F_marks_Marks_Has N x1904 >>= fun _ =>
some ()) : Option Unit) >>= fun _ =>
((some ()) : Option Unit) >>= fun _ =>
some ()) : Option Unit) >>= fun _ =>
some (.inl (w64 (x1844 + 1))))
else (
some (.inr ()))
def F_trim_kept_l1 (N : Nat) (x1927 : (List Int)) (x2083 : Int) : Option (Int ⊕ Unit) :=
if (decide (x2083 < (x1927.length : Int))) = true then (
((idx x1927 x2083 >>= fun x2143 =>
((F_marks_Marks_Has N x2143 >>= fun _ =>
some ()) : Option Unit) >>= fun _ =>
((some ()) : Option Unit) >>= fun _ =>
some ()) : Option Unit) >>= fun _ =>
some (.inl (w64 (x2083 + 1))))
else (
some (.inr ()))
def F_trim_kept_l2 (N : Nat) (x2 : (List (List Int))) (x1673 : (List Int)) (x2174 : (List Int)) (x2550 : Int) (x2553 : (List Int)) : Option ((Int × (List Int)) ⊕ (List Int)) :=
if (decide (x2550 < (x2174.length : Int))) = true then (
((idx x2174 x2550 >>= fun x2695 =>
((F_marks_Marks_Has_1 N x1673 (x2.length : Int) x2695 >>= fun x2710 =>
if x2710 = true then (
some (decide (x2695 > 0)))
else (
some false)) : Option Bool) >>= fun x2706 =>
((if x2706 = true then (
app x2553 ([x2695]) >>= fun x2728 =>
some x2728)
else (
some x2553)) : Option (List Int)) >>= fun x2723 =>
some x2723) : Option (List Int)) >>= fun x2692 =>
some (.inl (w64 (x2550 + 1), x2692)))
else (
some (.inr x2553))
def F_trim_kept_l3 (N : Nat) (x2 : (List (List Int))) (x1673 : (List Int)) (x2741 : (List Int)) (x3117 : Int) (x3120 : (List Int)) : Option ((Int × (List Int)) ⊕ (List Int)) :=
if (decide (x3117 < (x2741.length : Int))) = true then (
((idx x2741 x3117 >>= fun x3262 =>
((F_marks_Marks_Has_1 N x1673 (x2.length : Int) x3262 >>= fun x3277 =>
if x3277 = true then (
some (decide (x3262 > 0)))
else (
some false)) : Option Bool) >>= fun x3273 =>
((if x3273 = true then (
app x3120 ([x3262]) >>= fun x3295 =>
some x3295)
else (
some x3120)) : Option (List Int)) >>= fun x3290 =>
some x3290) : Option (List Int)) >>= fun x3259 =>
some (.inl (w64 (x3117 + 1), x3259)))
else (
some (.inr x3120))
def F_trim_kept (N : Nat) (x2 : (List (List Int))) (x5 : (List Int)) (x8 : (List Int)) : Option (List Int) :=
F_trim_reached N x2 x5 x8 >>= fun z => match z with
| .inl _ => (
F_trim_live N x2 x5 x8 >>= fun z => match z with
| .inl _ => (
F_marks_Marks_List N >>= fun x1688 =>
((iterO N (fun s => F_trim_kept_l0 N x1688 s) 0) : Option Unit) >>= fun _ =>
some ([0]))
| .inr x1681 => (
F_marks_Marks_List_1 N x1681 (x2.length : Int) >>= fun x1927 =>
((iterO N (fun s => F_trim_kept_l1 N x1927 s) 0) : Option Unit) >>= fun _ =>
some ([0])))
| .inr x1673 => (
F_trim_live N x2 x5 x8 >>= fun z => match z with
| .inl _ => (
F_marks_Marks_List N >>= fun x2174 =>
((iterO N (fun s => F_trim_kept_l2 N x2 x1673 x2174 s.1 s.2) (0, [0])) : Option (List Int)) >>= fun x2456 =>
some x2456)
| .inr x2167 => (
F_marks_Marks_List_1 N x2167 (x2.length : Int) >>= fun x2741 =>
((iterO N (fun s => F_trim_kept_l3 N x2 x1673 x2741 s.1 s.2) (0, [0])) : Option (List Int)) >>= fun x3023 =>
some x3023))
def F_trim_IsTrim (N : Nat) (x2 : (List (List Int))) (x5 : (List Int)) (x8 : (List Int)) : Option Bool :=
((F_subset_Right N x2 x5 x8 >>= fun x55 =>
if x55 = true then (
F_trim_kept N x2 x5 x8 >>= fun x61 =>
some ((x61.length : Int) == (x2.length : Int)))
else (
some false)) : Option Bool) >>= fun x51 =>
some x51
def F_dofferlaw18_alive (N : Nat) : Option Bool :=
mk (List.replicate 256 0) 1 >>= fun x64 =>
((F_trim_Reached N x64 ([(-1)]) ([0]) >>= fun x105 =>
F_doffernum_SameInts N x105 ([0]) >>= fun x112 =>
if x112 = true then (
F_trim_Live N x64 ([(-1)]) ([0]) >>= fun x118 =>
if ((x118.length : Int) == 0) = true then (
F_trim_IsTrim N x64 ([(-1)]) ([0]) >>= fun x123 =>
some x123)
else (
some false))
else (
some false)) : Option Bool) >>= fun x99 =>
some x99
def F_clone_67 (_N : Nat) (x : (List Int)) : Option (List Int) := app [] x
def F_trim_Shortest_l1 (N : Nat) (x7469 : (List Int)) (x7541 : Int) : Option (Int ⊕ Unit) :=
if (decide (x7541 < 256)) = true then (
((idx x7469 x7541 >>= fun x7568 =>
F_marks_Marks_Put_1 N x7568 >>= fun _ =>
((some ()) : Option Unit) >>= fun _ =>
some ()) : Option Unit) >>= fun _ =>
some (.inl (w64 (x7541 + 1))))
else (
some (.inr ()))
def F_trim_Shortest_l0 (N : Nat) (x2 : (List (List Int))) (x5 : (List Int)) (x11 : Int) (x7288 : (List (Int × (List Int)))) : Option ((List (Int × (List Int))) ⊕ (Unit ⊕ (Unit ⊕ (List Int)))) :=
if (decide ((x7288.length : Int) > 0)) = true then (
idx x7288 0 >>= fun x7437 =>
slc x7288 1 (x7288.length : Int) >>= fun x7455 =>
idx x5 x7437.1 >>= fun x7462 =>
if (x7462 == x11) = true then (
some (.inr (.inr (.inr x7437.2))))
else (
idx x2 x7437.1 >>= fun x7469 =>
((iterO N (fun s => F_trim_Shortest_l1 N x7469 s) 0) : Option Unit) >>= fun _ =>
some (.inl x7455)))
else (
some (.inr (.inl ())))
def F_trim_Shortest_l3 (N : Nat) (x2 : (List (List Int))) (x12374 : (Int × (List Int))) (x12406 : (List Int)) (x13018 : Int) (x13020 : (List Int)) (x13024 : (List (Int × (List Int)))) : Option ((Int × (List Int) × (List (Int × (List Int)))) ⊕ ((List Int) × (List (Int × (List Int))))) :=
if (decide (x13018 < 256)) = true then (
((idx x12406 x13018 >>= fun x13252 =>
F_marks_Marks_Put N x13020 (x2.length : Int) x13252 >>= fun (x13256, x13257) =>
((if x13257 = true then (
F_clone_67 N x12374.2 >>= fun x13294 =>
app x13294 ([IntKind.wrap .u8 x13018]) >>= fun x13299 =>
app x13024 ([(x13252, x13299)]) >>= fun x13309 =>
some x13309)
else (
some x13024)) : Option (List (Int × (List Int)))) >>= fun x13287 =>
some (x13256, x13287)) : Option ((List Int) × (List (Int × (List Int))))) >>= fun (x13245, x13249) =>
some (.inl (w64 (x13018 + 1), x13245, x13249)))
else (
some (.inr (x13020, x13024)))
def F_trim_Shortest_l2 (N : Nat) (x2 : (List (List Int))) (x5 : (List Int)) (x11 : Int) (x11409 : (List Int)) (x11413 : (List (Int × (List Int)))) : Option (((List Int) × (List (Int × (List Int)))) ⊕ (Unit ⊕ (Unit ⊕ (List Int)))) :=
if (decide ((x11413.length : Int) > 0)) = true then (
idx x11413 0 >>= fun x12374 =>
slc x11413 1 (x11413.length : Int) >>= fun x12392 =>
idx x5 x12374.1 >>= fun x12399 =>
if (x12399 == x11) = true then (
some (.inr (.inr (.inr x12374.2))))
else (
idx x2 x12374.1 >>= fun x12406 =>
((iterO N (fun s => F_trim_Shortest_l3 N x2 x12374 x12406 s.1 s.2.1 s.2.2) (0, x11409, x12392)) : Option ((List Int) × (List (Int × (List Int))))) >>= fun (x12863, x12867) =>
some (.inl (x12863, x12867))))
else (
some (.inr (.inl ())))
def F_trim_Shortest (N : Nat) (x2 : (List (List Int))) (x5 : (List Int)) (x8 : (List Int)) (x10 : Int) (x11 : Int) : Option (Unit ⊕ (List Int)) :=
((F_subset_Right N x2 x5 x8 >>= fun x6680 =>
if (!x6680) = true then (
some true)
else (
if (x11 == (-1)) = true then (
some true)
else (
if (decide (x10 < 0)) = true then (
some true)
else (
some (decide (x10 ≥ (x8.length : Int))))))) : Option Bool) >>= fun x6676 =>
if x6676 = true then (
some (.inl ()))
else (
idx x8 x10 >>= fun x6683 =>
F_trim_marked N x2 x5 x8 ([x6683]) >>= fun z => match z with
| .inl _ => (
idx x8 x10 >>= fun x6700 =>
((iterO N (fun s => F_trim_Shortest_l0 N x2 x5 x11 s) ([(x6700, [])])) : Option (Unit ⊕ (Unit ⊕ (List Int)))) >>= fun z => match z with
| .inr z => some z
| .inl _ =>
some (.inl ()))
| .inr x6697 => (
idx x8 x10 >>= fun x7577 =>
((iterO N (fun s => F_trim_Shortest_l2 N x2 x5 x11 s.1 s.2) (x6697, [(x7577, [])])) : Option (Unit ⊕ (Unit ⊕ (List Int)))) >>= fun z => match z with
| .inr z => some z
| .inl _ =>
some (.inl ())))
def F_dofferref18_Steps_l0 (_N : Nat) (x5 : (List Int)) (x10 : Int) (x29199 : (List Int)) (x29607 : Int) (x29609 : (List Int)) : Option ((Int × (List Int)) ⊕ (List Int)) :=
if (decide (x29607 < (x29199.length : Int))) = true then (
((idx x29609 x29607 >>= fun _x29763 =>
setI x29609 x29607 (-1) >>= fun x29770 =>
idx x5 x29607 >>= fun x29774 =>
((if (x29774 == x10) = true then (
idx x29770 x29607 >>= fun _x29796 =>
setI x29770 x29607 0 >>= fun x29803 =>
some x29803)
else (
some x29770)) : Option (List Int)) >>= fun x29793 =>
some x29793) : Option (List Int)) >>= fun x29760 =>
some (.inl (w64 (x29607 + 1), x29760)))
else (
some (.inr x29609))
def F_dofferref18_Steps_l3 (_N : Nat) (x48857 : Int) (x53623 : (List Int)) (x56793 : Int) (x57590 : (List Int)) (x58117 : (List Int)) (x58119 : Int) : Option (((List Int) × Int) ⊕ (List Int)) :=
if (decide (x58119 < 256)) = true then (
((idx x57590 x58119 >>= fun x58314 =>
((idx x53623 x56793 >>= fun x58331 =>
if (decide (x58331 < 0)) = true then (
idx x53623 x58314 >>= fun x58338 =>
some (x58338 == x48857))
else (
some false)) : Option Bool) >>= fun x58329 =>
((if x58329 = true then (
idx x58117 x56793 >>= fun _x58361 =>
setI x58117 x56793 (w64 (x48857 + 1)) >>= fun x58368 =>
some x58368)
else (
some x58117)) : Option (List Int)) >>= fun x58358 =>
some x58358) : Option (List Int)) >>= fun x58311 =>
some (.inl (x58311, w64 (x58119 + 1))))
else (
some (.inr x58117))
def F_dofferref18_Steps_l2 (N : Nat) (x2 : (List (List Int))) (x48857 : Int) (x53623 : (List Int)) (x56793 : Int) (x56795 : (List Int)) : Option ((Int × (List Int)) ⊕ (List Int)) :=
if (decide (x56793 < (x2.length : Int))) = true then (
idx x2 x56793 >>= fun x57590 =>
((iterO N (fun s => F_dofferref18_Steps_l3 N x48857 x53623 x56793 x57590 s.1 s.2) (x56795, 0)) : Option (List Int)) >>= fun x57986 =>
some (.inl (w64 (x56793 + 1), x57986)))
else (
some (.inr x56795))
def F_dofferref18_Steps_l1 (N : Nat) (x2 : (List (List Int))) (x48855 : (List Int)) (x48857 : Int) : Option (((List Int) × Int) ⊕ (List Int)) :=
if (decide (x48857 < (x2.length : Int))) = true then (
app ([]) x48855 >>= fun x53623 =>
((iterO N (fun s => F_dofferref18_Steps_l2 N x2 x48857 x53623 s.1 s.2) (0, x48855)) : Option (List Int)) >>= fun x56001 =>
some (.inl (x56001, w64 (x48857 + 1))))
else (
some (.inr x48855))
def F_dofferref18_Steps (N : Nat) (x2 : (List (List Int))) (x5 : (List Int)) (_x8 : (List Int)) (x10 : Int) : Option (List Int) :=
mk 0 (x2.length : Int) >>= fun x29199 =>
((iterO N (fun s => F_dofferref18_Steps_l0 N x5 x10 x29199 s.1 s.2) (0, x29199)) : Option (List Int)) >>= fun x29505 =>
((iterO N (fun s => F_dofferref18_Steps_l1 N x2 s.1 s.2) (x29505, 0)) : Option (List Int)) >>= fun x44092 =>
some x44092
def F_dofferref18_Shortest_l1 (_N : Nat) (x2 : (List (List Int))) (x1922 : (List Int)) (x3188 : (List Int)) (x3190 : Int) (x3709 : Int) : Option (Int ⊕ ((List Int) × Int)) :=
if (decide (x3709 < 256)) = true then (
idx x2 x3190 >>= fun x3761 =>
idx x3761 x3709 >>= fun x3768 =>
idx x1922 x3768 >>= fun x3773 =>
idx x1922 x3190 >>= fun x3780 =>
if (x3773 == (w64 (x3780 - 1))) = true then (
app x3188 ([IntKind.wrap .u8 x3709]) >>= fun x3789 =>
idx x2 x3190 >>= fun x3795 =>
idx x3795 x3709 >>= fun x3802 =>
some (.inr (x3789, x3802)))
else (
some (.inl (w64 (x3709 + 1)))))
else (
some (.inr (x3188, x3190)))
def F_dofferref18_Shortest_l0 (N : Nat) (x2 : (List (List Int))) (x1922 : (List Int)) (x3188 : (List Int)) (x3190 : Int) : Option (((List Int) × Int) ⊕ (List Int)) :=
idx x1922 x3190 >>= fun x3504 =>
if (decide (x3504 > 0)) = true then (
((iterO N (fun s => F_dofferref18_Shortest_l1 N x2 x1922 x3188 x3190 s) 0) : Option ((List Int) × Int)) >>= fun (x3658, x3660) =>
some (.inl (x3658, x3660)))
else (
some (.inr x3188))
def F_dofferref18_Shortest (N : Nat) (x2 : (List (List Int))) (x5 : (List Int)) (x8 : (List Int)) (x10 : Int) (x11 : Int) : Option ((List Int) × Bool) :=
((if (decide (x11 < 0)) = true then (
some true)
else (
if (decide (x10 < 0)) = true then (
some true)
else (
some (decide (x10 ≥ (x8.length : Int)))))) : Option Bool) >>= fun x1915 =>
if x1915 = true then (
some ([], false))
else (
F_dofferref18_Steps N x2 x5 x8 x11 >>= fun x1922 =>
idx x8 x10 >>= fun x1925 =>
idx x1922 x1925 >>= fun x1932 =>
if (decide (x1932 < 0)) = true then (
some ([], false))
else (
((iterO N (fun s => F_dofferref18_Shortest_l0 N x2 x1922 s.1 s.2) ([], x1925)) : Option (List Int)) >>= fun x2874 =>
some (x2874, true)))
def F_dofferlaw18_TrimShortest (N : Nat) (x2 : (List (List Int))) (x5 : (List Int)) (x8 : (List Int)) (x10 : Int) (x11 : Int) : Option Bool :=
F_dofferlaw18_alive N >>= fun x92 =>
if (!x92) = true then (
some false)
else (
F_dofferlaw17_Of N x2 x5 x8 20 >>= fun (x98, x99) =>
if (!x99) = true then (
some true)
else (
F_trim_Shortest N x2 x5 x8 x10 x11 >>= fun z => match z with
| .inl _ => (
F_dofferref17_Right N x98 x5 x8 >>= fun x115 =>
if (!x115) = true then (
((some ()) : Option Unit) >>= fun _ =>
some ((([] : List Int).length : Int) == 0))
else (
F_dofferref18_Shortest N x98 x5 x8 x10 x11 >>= fun (x123, x124) =>
((if (false == x124) = true then (
if ((bstr ([])).toList == (bstr x123).toList) = true then (
some true)
else (
some false))
else (
some false)) : Option Bool) >>= fun x129 =>
some x129))
| .inr x109 => (
F_dofferref17_Right N x98 x5 x8 >>= fun x136 =>
if (!x136) = true then (
((some ()) : Option Unit) >>= fun _ =>
some false)
else (
F_dofferref18_Shortest N x98 x5 x8 x10 x11 >>= fun (x144, x145) =>
((if (true == x145) = true then (
if ((bstr x109).toList == (bstr x144).toList) = true then (
F_subset_DFA_Run N x2 x5 x8 x10 x109 >>= fun x160 =>
some (x160 == x11))
else (
some false))
else (
some false)) : Option Bool) >>= fun x154 =>
some x154))))
end Go.Proofs.YteiaphkejkgfkaaDoor
