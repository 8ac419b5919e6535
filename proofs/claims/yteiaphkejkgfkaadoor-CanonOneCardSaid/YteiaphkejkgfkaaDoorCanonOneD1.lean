/-
  The pure functions, printed by my program: what each function of the code computes.
-/
import Derived.Test.YteiaphkejkgfkaaDoorCanonOneE1
namespace Go.Proofs.YteiaphkejkgfkaaDoor
open Go Go.Eng
set_option maxRecDepth 100000
def tab_math_bits_deBruijn64tab : List Int := [0, 1, 56, 2, 57, 49, 28, 3, 61, 58, 42, 50, 38, 29, 17, 4, 62, 47, 59, 36, 45, 43, 51, 22, 53, 39, 33, 30, 24, 18, 12, 5, 63, 55, 48, 27, 60, 41, 37, 16, 46, 35, 44, 21, 52, 32, 23, 11, 54, 26, 40, 15, 34, 20, 31, 10, 25, 14, 19, 9, 13, 8, 7, 6]
def F_subset_Right_1 (_N : Nat) (x1 : Int) (x3 : Int) : Option Bool :=
((if (decide (x1 < 0)) = true then (
some true)
else (
some (decide (x1 ≥ x3)))) : Option Bool) >>= fun x8 =>
some x8
def F_slices_IndexFunc_int_int_l0 (N : Nat) (x2 : (List Int)) (x5 : Int) (x142 : Int) : Option (Int ⊕ (Unit ⊕ Int)) :=
if (decide (x142 < (x2.length : Int))) = true then (
idx x2 x142 >>= fun x159 =>
F_subset_Right_1 N x159 x5 >>= fun x168 =>
if x168 = true then (
some (.inr (.inr x142)))
else (
some (.inl (w64 (x142 + 1)))))
else (
some (.inr (.inl ())))
def F_slices_IndexFunc_int_int (N : Nat) (x2 : (List Int)) (x5 : Int) : Option Int :=
((iterO N (fun s => F_slices_IndexFunc_int_int_l0 N x2 x5 s) 0) : Option (Unit ⊕ Int)) >>= fun z => match z with
| .inr z => some z
| .inl _ =>
some (-1)
def F_slices_ContainsFunc_int_int (N : Nat) (x2 : (List Int)) (x5 : Int) : Option Bool :=
F_slices_IndexFunc_int_int N x2 x5 >>= fun x13 =>
some (decide (x13 ≥ 0))
def F_subset_Right_2 (_N : Nat) (x1 : Int) : Option Bool :=
((if (decide (x1 < (-1))) = true then (
some true)
else (
some (decide (x1 ≥ 48)))) : Option Bool) >>= fun x6 =>
some x6
def F_slices_IndexFunc_int_int_1_l0 (N : Nat) (x2 : (List Int)) (x140 : Int) : Option (Int ⊕ (Unit ⊕ Int)) :=
if (decide (x140 < (x2.length : Int))) = true then (
idx x2 x140 >>= fun x157 =>
F_subset_Right_2 N x157 >>= fun x166 =>
if x166 = true then (
some (.inr (.inr x140)))
else (
some (.inl (w64 (x140 + 1)))))
else (
some (.inr (.inl ())))
def F_slices_IndexFunc_int_int_1 (N : Nat) (x2 : (List Int)) : Option Int :=
((iterO N (fun s => F_slices_IndexFunc_int_int_1_l0 N x2 s) 0) : Option (Unit ⊕ Int)) >>= fun z => match z with
| .inr z => some z
| .inl _ =>
some (-1)
def F_slices_ContainsFunc_int_int_1 (N : Nat) (x2 : (List Int)) : Option Bool :=
F_slices_IndexFunc_int_int_1 N x2 >>= fun x11 =>
some (decide (x11 ≥ 0))
def F_subset_Right_l0 (N : Nat) (x2 : (List (List Int))) (x242 : Int) : Option (Int ⊕ (Unit ⊕ Bool)) :=
if (decide (x242 < (x2.length : Int))) = true then (
idx x2 x242 >>= fun x262 =>
F_slices_ContainsFunc_int_int N x262 (x2.length : Int) >>= fun x274 =>
if x274 = true then (
some (.inr (.inr false)))
else (
some (.inl (w64 (x242 + 1)))))
else (
some (.inr (.inl ())))
def F_subset_Right (N : Nat) (x2 : (List (List Int))) (x5 : (List Int)) (x8 : (List Int)) : Option Bool :=
((if (decide ((x2.length : Int) < 1)) = true then (
some true)
else (
if (decide ((x2.length : Int) > 200)) = true then (
some true)
else (
if ((x5.length : Int) != (x2.length : Int)) = true then (
some true)
else (
if (decide ((x8.length : Int) < 1)) = true then (
some true)
else (
some (decide ((x8.length : Int) > 8))))))) : Option Bool) >>= fun x174 =>
if x174 = true then (
some false)
else (
((iterO N (fun s => F_subset_Right_l0 N x2 s) 0) : Option (Unit ⊕ Bool)) >>= fun z => match z with
| .inr z => some z
| .inl _ =>
((F_slices_ContainsFunc_int_int_1 N x5 >>= fun x289 =>
if x289 = true then (
some true)
else (
F_slices_ContainsFunc_int_int N x8 (x2.length : Int) >>= fun x293 =>
some x293)) : Option Bool) >>= fun x285 =>
if x285 = true then (
some false)
else (
((idx x2 0 >>= fun x312 =>
if (x312 == (List.replicate 256 0)) = true then (
idx x5 0 >>= fun x319 =>
some (x319 == (-1)))
else (
some false)) : Option Bool) >>= fun x310 =>
some x310))
def F_marks_New (_N : Nat) (x1 : Int) : Option (Unit ⊕ (List Int)) :=
((if (decide (x1 < 0)) = true then (
some true)
else (
some (decide (x1 > 65536)))) : Option Bool) >>= fun x16 =>
if x16 = true then (
some (.inl ()))
else (
mk 0 (w64 ((w64 ((w64 (x1 + 64)) - 1)).tdiv 64)) >>= fun x19 =>
some (.inr x19))
def F_marks_Marks_Size (_N : Nat) (_x3 : (List Int)) (_x6 : Int) : Option Unit :=
some ()
def F_marks_Marks_at (N : Nat) (x3 : (List Int)) (x6 : Int) (x7 : Int) : Option (Int × Int × Bool) :=
((nn ((IntKind.wrap .u64 x7).tmod 64) >>= fun _x32 =>
if (decide (x7 ≥ 0)) = true then (
F_marks_Marks_Size N x3 x6 >>= fun _ =>
some (w64 (x7.tdiv 64), shlI .u64 1 ((IntKind.wrap .u64 x7).tmod 64), decide (x7 < x6)))
else (
some (w64 (x7.tdiv 64), shlI .u64 1 ((IntKind.wrap .u64 x7).tmod 64), false))) : Option (Int × Int × Bool)) >>= fun (x28, x29, x30) =>
some (x28, x29, x30)
def F_marks_Marks_Put (N : Nat) (x3 : (List Int)) (x6 : Int) (x7 : Int) : Option ((List Int) × Bool) :=
F_marks_Marks_at N x3 x6 x7 >>= fun (x55, x56, x57) =>
((if (!x57) = true then (
some true)
else (
idx x3 x55 >>= fun x68 =>
some ((iand .u64 x68 x56) != 0))) : Option Bool) >>= fun x66 =>
if x66 = true then (
some (x3, false))
else (
idx x3 x55 >>= fun x76 =>
idx x3 x55 >>= fun _x83 =>
setI x3 x55 (ior .u64 x76 x56) >>= fun x90 =>
some (x90, true))
def F_canon_order_1_l0 (N : Nat) (x2 : (List Int)) (x10 : Int) (x983 : (List Int)) (x987 : (List Int)) (x989 : Int) : Option (((List Int) × (List Int) × Int) ⊕ ((List Int) × (List Int))) :=
if (decide (x989 < (x2.length : Int))) = true then (
((idx x2 x989 >>= fun x1133 =>
F_marks_Marks_Put N x983 x10 x1133 >>= fun (x1143, x1144) =>
((if x1144 = true then (
app x987 ([x1133]) >>= fun x1163 =>
some x1163)
else (
some x987)) : Option (List Int)) >>= fun x1158 =>
some (x1143, x1158)) : Option ((List Int) × (List Int))) >>= fun (x1126, x1130) =>
some (.inl (x1126, x1130, w64 (x989 + 1))))
else (
some (.inr (x983, x987)))
def F_canon_order_1 (N : Nat) (x2 : (List Int)) (x7 : (List Int)) (x10 : Int) (x13 : (List Int)) : Option ((List Int) × (List Int)) :=
((iterO N (fun s => F_canon_order_1_l0 N x2 x10 s.1 s.2.1 s.2.2) (x7, x13, 0)) : Option ((List Int) × (List Int))) >>= fun (x882, x886) =>
some (x882, x886)
def F_canon_order_l0 (N : Nat) (x2 : (List (List Int))) (x435 : (List Int)) (x438 : (List Int)) (x440 : Int) : Option (((List Int) × (List Int) × Int) ⊕ (List Int)) :=
if (decide (x440 < (x435.length : Int))) = true then (
idx x435 x440 >>= fun x477 =>
idx x2 x477 >>= fun x484 =>
F_canon_order_1 N x484 x438 (x2.length : Int) x435 >>= fun (x496, x497) =>
some (.inl (x497, x496, w64 (x440 + 1))))
else (
some (.inr x435))
def F_canon_order (N : Nat) (x2 : (List (List Int))) (_x5 : (List Int)) (x8 : (List Int)) : Option (List Int) :=
F_marks_New N (x2.length : Int) >>= fun z => match z with
| .inl _ => (
some ([]))
| .inr x265 => (
F_marks_Marks_Put N x265 (x2.length : Int) 0 >>= fun (x277, _x278) =>
F_canon_order_1 N x8 x277 (x2.length : Int) ([0]) >>= fun (x291, x292) =>
((iterO N (fun s => F_canon_order_l0 N x2 s.1 s.2.1 s.2.2) (x292, x291, 1)) : Option (List Int)) >>= fun x398 =>
some x398)
def F_canon_Order (N : Nat) (x2 : (List (List Int))) (x5 : (List Int)) (x8 : (List Int)) : Option (List Int) :=
F_subset_Right N x2 x5 x8 >>= fun x31 =>
if (!x31) = true then (
some ([]))
else (
F_canon_order N x2 x5 x8 >>= fun x37 =>
some x37)
def F_doffernum_SameInts_l0 (_N : Nat) (x2 : (List Int)) (x5 : (List Int)) (x173 : Int) : Option (Int ⊕ (Unit ⊕ Bool)) :=
if (decide (x173 < (x2.length : Int))) = true then (
idx x2 x173 >>= fun x193 =>
idx x5 x173 >>= fun x200 =>
if (x193 != x200) = true then (
some (.inr (.inr false)))
else (
some (.inl (w64 (x173 + 1)))))
else (
some (.inr (.inl ())))
def F_doffernum_SameInts (N : Nat) (x2 : (List Int)) (x5 : (List Int)) : Option Bool :=
if ((x2.length : Int) != (x5.length : Int)) = true then (
some false)
else (
((iterO N (fun s => F_doffernum_SameInts_l0 N x2 x5 s) 0) : Option (Unit ⊕ Bool)) >>= fun z => match z with
| .inr z => some z
| .inl _ =>
some true)
def F_dofferlaw20_alive_l0 (_N : Nat) (x251 : (List (List Int))) (x253 : Int) : Option (((List (List Int)) × Int) ⊕ (List (List Int))) :=
if (decide (x253 < 256)) = true then (
idx x251 2 >>= fun x275 =>
idx x275 x253 >>= fun _x282 =>
setI x275 x253 1 >>= fun x284 =>
setI x251 2 x284 >>= fun x285 =>
some (.inl (x285, w64 (x253 + 1))))
else (
some (.inr x251))
def F_dofferlaw20_alive (N : Nat) : Option Bool :=
mk (List.replicate 256 0) 3 >>= fun x163 =>
((iterO N (fun s => F_dofferlaw20_alive_l0 N s.1 s.2) (x163, 0)) : Option (List (List Int))) >>= fun x230 =>
F_canon_Order N x230 ([(-1), 0, (-1)]) ([2]) >>= fun x293 =>
F_doffernum_SameInts N x293 ([0, 2, 1]) >>= fun x300 =>
some x300
def F_canon_Canon_l0 (_N : Nat) (x1988 : (List Int)) (x2091 : Int) (x2093 : (List Int)) : Option ((Int × (List Int)) ⊕ (List Int)) :=
if (decide (x2091 < (x1988.length : Int))) = true then (
idx x1988 x2091 >>= fun x2121 =>
idx x2093 x2121 >>= fun _x2128 =>
setI x2093 x2121 x2091 >>= fun x2135 =>
some (.inl (w64 (x2091 + 1), x2135)))
else (
some (.inr x2093))
def F_canon_Canon_l2 (_N : Nat) (x2066 : (List Int)) (x3298 : (List Int)) (x3398 : (List Int)) (x3401 : Int) : Option (((List Int) × Int) ⊕ (List Int)) :=
if (decide (x3401 < 256)) = true then (
idx x3298 x3401 >>= fun x3426 =>
idx x2066 x3426 >>= fun x3427 =>
idx x3398 x3401 >>= fun _x3434 =>
setI x3398 x3401 x3427 >>= fun x3437 =>
some (.inl (x3437, w64 (x3401 + 1))))
else (
some (.inr x3398))
def F_canon_Canon_l1 (N : Nat) (x2 : (List (List Int))) (x5 : (List Int)) (x1988 : (List Int)) (x2066 : (List Int)) (x3055 : (List (List Int))) (x3059 : (List Int)) (x3061 : Int) : Option (((List (List Int)) × (List Int) × Int) ⊕ ((List (List Int)) × (List Int))) :=
if (decide (x3061 < (x1988.length : Int))) = true then (
idx x1988 x3061 >>= fun x3291 =>
idx x2 x3291 >>= fun x3298 =>
((iterO N (fun s => F_canon_Canon_l2 N x2066 x3298 s.1 s.2) (x3298, 0)) : Option (List Int)) >>= fun x3373 =>
app x3055 ([x3373]) >>= fun x3444 =>
((idx x5 x3291 >>= fun x3481 =>
app x3059 ([x3481]) >>= fun x3490 =>
some x3490) : Option (List Int)) >>= fun x3478 =>
some (.inl (x3444, x3478, w64 (x3061 + 1))))
else (
some (.inr (x3055, x3059)))
def F_canon_Canon_l3 (_N : Nat) (x8 : (List Int)) (x2066 : (List Int)) (x3792 : (List Int)) (x3794 : Int) : Option (((List Int) × Int) ⊕ (List Int)) :=
if (decide (x3794 < (x8.length : Int))) = true then (
idx x8 x3794 >>= fun x3867 =>
((idx x2066 x3867 >>= fun x3904 =>
app x3792 ([x3904]) >>= fun x3913 =>
some x3913) : Option (List Int)) >>= fun x3901 =>
some (.inl (x3901, w64 (x3794 + 1))))
else (
some (.inr x3792))
def F_canon_Canon (N : Nat) (x2 : (List (List Int))) (x5 : (List Int)) (x8 : (List Int)) : Option ((List (List Int)) × (List Int) × (List Int)) :=
F_canon_Order N x2 x5 x8 >>= fun x1988 =>
mk 0 (x2.length : Int) >>= fun x1991 =>
((iterO N (fun s => F_canon_Canon_l0 N x1988 s.1 s.2) (0, x1991)) : Option (List Int)) >>= fun x2066 =>
((iterO N (fun s => F_canon_Canon_l1 N x2 x5 x1988 x2066 s.1 s.2.1 s.2.2) ([], [], 0)) : Option ((List (List Int)) × (List Int))) >>= fun (x2821, x2825) =>
if ((x1988.length : Int) == 0) = true then (
some (x2821, x2825, []))
else (
((iterO N (fun s => F_canon_Canon_l3 N x8 x2066 s.1 s.2) ([], 0)) : Option (List Int)) >>= fun x3719 =>
some (x2821, x2825, x3719))
def F_marks_Marks_own (_N : Nat) (_x3 : (List Int)) (_x6 : Int) : Option Unit :=
some ()
def F_trim_marked_l0 (N : Nat) (x2 : (List (List Int))) (x11 : (List Int)) (x239 : Int) (x241 : (List Int)) : Option ((Int × (List Int)) ⊕ (List Int)) :=
if (decide (x239 < (x11.length : Int))) = true then (
idx x11 x239 >>= fun x265 =>
F_marks_Marks_Put N x241 (x2.length : Int) x265 >>= fun (x275, _x276) =>
some (.inl (w64 (x239 + 1), x275)))
else (
some (.inr x241))
def F_trim_marked (N : Nat) (x2 : (List (List Int))) (_x5 : (List Int)) (_x8 : (List Int)) (x11 : (List Int)) : Option (Unit ⊕ (List Int)) :=
F_marks_New N (x2.length : Int) >>= fun z => match z with
| .inl _ => (
some (.inl ()))
| .inr x156 => (
((iterO N (fun s => F_trim_marked_l0 N x2 x11 s.1 s.2) (0, x156)) : Option (List Int)) >>= fun x218 =>
some (.inr x218))
def F_clone_82 (_N : Nat) (x : (List Int)) : Option (List Int) := app [] x
def F_marks_Marks_Size_1 (_N : Nat) : Option Unit :=
some ()
def F_marks_Marks_at_1 (N : Nat) (x1 : Int) : Option (Int × Int × Bool) :=
((nn ((IntKind.wrap .u64 x1).tmod 64) >>= fun _x26 =>
if (decide (x1 ≥ 0)) = true then (
F_marks_Marks_Size_1 N >>= fun _ =>
some (w64 (x1.tdiv 64), shlI .u64 1 ((IntKind.wrap .u64 x1).tmod 64), decide (x1 < 0)))
else (
some (w64 (x1.tdiv 64), shlI .u64 1 ((IntKind.wrap .u64 x1).tmod 64), false))) : Option (Int × Int × Bool)) >>= fun (x22, x23, x24) =>
some (x22, x23, x24)
def F_marks_Marks_Put_1 (N : Nat) (x1 : Int) : Option Unit :=
F_marks_Marks_at_1 N x1 >>= fun (_x12, _x13, x14) =>
((if (!x14) = true then (
some ())
else (
none)) : Option Unit) >>= fun _ =>
some ()
def F_trim_reached_l0 (N : Nat) (x1374 : (List Int)) : Option ((List Int) ⊕ Unit) :=
if (decide ((x1374.length : Int) > 0)) = true then (
((idx x1374 0 >>= fun x1452 =>
slc x1374 1 (x1374.length : Int) >>= fun x1459 =>
F_marks_Marks_Put_1 N x1452 >>= fun _ =>
((some ()) : Option Unit) >>= fun _ =>
some x1459) : Option (List Int)) >>= fun x1449 =>
some (.inl x1449))
else (
some (.inr ()))
def F_trim_reached_l1 (N : Nat) (x2 : (List (List Int))) (x2025 : (List Int)) (x2029 : (List Int)) : Option (((List Int) × (List Int)) ⊕ (List Int)) :=
if (decide ((x2029.length : Int) > 0)) = true then (
((idx x2029 0 >>= fun x2236 =>
slc x2029 1 (x2029.length : Int) >>= fun x2243 =>
F_marks_Marks_Put N x2025 (x2.length : Int) x2236 >>= fun (x2253, x2254) =>
((if x2254 = true then (
idx x2 x2236 >>= fun x2278 =>
app x2243 x2278 >>= fun x2285 =>
some x2285)
else (
some x2243)) : Option (List Int)) >>= fun x2275 =>
some (x2253, x2275)) : Option ((List Int) × (List Int))) >>= fun (x2229, x2233) =>
some (.inl (x2229, x2233)))
else (
some (.inr x2025))
def F_trim_reached (N : Nat) (x2 : (List (List Int))) (x5 : (List Int)) (x8 : (List Int)) : Option (Unit ⊕ (List Int)) :=
F_trim_marked N x2 x5 x8 ([0]) >>= fun z => match z with
| .inl _ => (
F_clone_82 N x8 >>= fun x1172 =>
((iterO N (fun s => F_trim_reached_l0 N s) x1172) : Option Unit) >>= fun _ =>
some (.inl ()))
| .inr x1165 => (
F_clone_82 N x8 >>= fun x1477 =>
((iterO N (fun s => F_trim_reached_l1 N x2 s.1 s.2) (x1165, x1477)) : Option (List Int)) >>= fun x1887 =>
some (.inr x1887))
def F_marks_Marks_own_1 (_N : Nat) : Option Unit :=
some ()
def F_marks_Marks_After_l0 (N : Nat) (_x53 : Int) (x54 : Int) : Option ((Int × Int) ⊕ Unit) :=
F_marks_Marks_own_1 N >>= fun _ =>
if (decide (x54 < (([] : List Int).length : Int))) = true then (
none)
else (
some (.inr ()))
def F_marks_Marks_After (N : Nat) (x1 : Int) : Option Unit :=
F_marks_Marks_Size_1 N >>= fun _ =>
if (decide (x1 ≥ 0)) = true then (
some ())
else (
((iterO N (fun s => F_marks_Marks_After_l0 N s.1 s.2) (w64 ((imax x1 (-1)) + 1), w64 ((w64 ((imax x1 (-1)) + 1)).tdiv 64))) : Option Unit) >>= fun _ =>
some ())
def F_marks_Marks_List_l0 (N : Nat) (x186 : (List Int)) : Option ((List Int) ⊕ (List Int)) :=
if (decide ((-1) ≥ 0)) = true then (
app x186 ([(-1)]) >>= fun x209 =>
F_marks_Marks_After N (-1) >>= fun _ =>
some (.inl x209))
else (
some (.inr x186))
def F_marks_Marks_List (N : Nat) : Option (List Int) :=
F_marks_Marks_After N (-1) >>= fun _ =>
((iterO N (fun s => F_marks_Marks_List_l0 N s) ([])) : Option (List Int)) >>= fun x166 =>
some x166
def F_math_bits_TrailingZeros64 (_N : Nat) (x1 : Int) : Option Int :=
if (x1 == 0) = true then (
some 64)
else (
idx tab_math_bits_deBruijn64tab (shrI .u64 (IntKind.wrap .u64 ((iand .u64 x1 (IntKind.wrap .u64 (0 - x1))) * 285870213051353865)) 58) >>= fun x5 =>
some (IntKind.wrap .i64 x5))
def F_marks_Marks_After_1_l0 (N : Nat) (x3 : (List Int)) (x6 : Int) (x7 : Int) (x410 : Int) : Option (Int ⊕ (Unit ⊕ Int)) :=
F_marks_Marks_own N x3 x6 >>= fun _ =>
if (decide (x410 < (x3.length : Int))) = true then (
((idx x3 x410 >>= fun x479 =>
((if (x410 == (w64 ((w64 ((imax x7 (-1)) + 1)).tdiv 64))) = true then (
nn ((w64 ((imax x7 (-1)) + 1)).tmod 64) >>= fun _x490 =>
nn ((w64 ((imax x7 (-1)) + 1)).tmod 64) >>= fun _x491 =>
some (shlI .u64 (shrI .u64 x479 ((w64 ((imax x7 (-1)) + 1)).tmod 64)) ((w64 ((imax x7 (-1)) + 1)).tmod 64)))
else (
some x479)) : Option Int) >>= fun x488 =>
if (x488 != 0) = true then (
F_math_bits_TrailingZeros64 N x488 >>= fun x495 =>
some (.inr (.inr (.inr (w64 ((w64 (64 * x410)) + x495))))))
else (
some (.inl ()))) : Option (Unit ⊕ (Int ⊕ (Unit ⊕ Int)))) >>= fun z => match z with
| .inr z => some z
| .inl _ =>
some (.inl (w64 (x410 + 1))))
else (
some (.inr (.inl ())))
def F_marks_Marks_After_1 (N : Nat) (x3 : (List Int)) (x6 : Int) (x7 : Int) : Option Int :=
F_marks_Marks_Size N x3 x6 >>= fun _ =>
if (decide (x7 ≥ x6)) = true then (
some (-1))
else (
((iterO N (fun s => F_marks_Marks_After_1_l0 N x3 x6 x7 s) (w64 ((w64 ((imax x7 (-1)) + 1)).tdiv 64))) : Option (Unit ⊕ Int)) >>= fun z => match z with
| .inr z => some z
| .inl _ =>
some (-1))
def F_marks_Marks_List_1_l0 (N : Nat) (x3 : (List Int)) (x6 : Int) (x214 : (List Int)) (x216 : Int) : Option (((List Int) × Int) ⊕ (List Int)) :=
if (decide (x216 ≥ 0)) = true then (
app x214 ([x216]) >>= fun x240 =>
F_marks_Marks_After_1 N x3 x6 x216 >>= fun x248 =>
some (.inl (x240, x248)))
else (
some (.inr x214))
def F_marks_Marks_List_1 (N : Nat) (x3 : (List Int)) (x6 : Int) : Option (List Int) :=
F_marks_Marks_After_1 N x3 x6 (-1) >>= fun x133 =>
((iterO N (fun s => F_marks_Marks_List_1_l0 N x3 x6 s.1 s.2) ([], x133)) : Option (List Int)) >>= fun x192 =>
some x192
def F_marks_Marks_Has (N : Nat) (x1 : Int) : Option Unit :=
F_marks_Marks_at_1 N x1 >>= fun (_x12, _x13, x14) =>
((if x14 = true then (
none)
else (
some ())) : Option Unit) >>= fun _ =>
some ()
def F_trim_live_1 (N : Nat) (x1 : Int) : Option Unit :=
F_marks_Marks_Has N x1 >>= fun _ =>
some ()
def F_slices_IndexFunc_int_int_2_l0 (N : Nat) (x2 : (List Int)) (x130 : Int) : Option (Int ⊕ Unit) :=
if (decide (x130 < (x2.length : Int))) = true then (
idx x2 x130 >>= fun x146 =>
F_trim_live_1 N x146 >>= fun _ =>
some (.inl (w64 (x130 + 1))))
else (
some (.inr ()))
def F_slices_IndexFunc_int_int_2 (N : Nat) (x2 : (List Int)) : Option Unit :=
((iterO N (fun s => F_slices_IndexFunc_int_int_2_l0 N x2 s) 0) : Option Unit) >>= fun _ =>
some ()
def F_slices_ContainsFunc_int_int_2 (N : Nat) (x2 : (List Int)) : Option Unit :=
F_slices_IndexFunc_int_int_2 N x2 >>= fun _ =>
some ()
def F_marks_Marks_Has_1 (N : Nat) (x3 : (List Int)) (x6 : Int) (x7 : Int) : Option Bool :=
F_marks_Marks_at N x3 x6 x7 >>= fun (x34, x35, x36) =>
((if x36 = true then (
idx x3 x34 >>= fun x47 =>
some ((iand .u64 x47 x35) != 0))
else (
some false)) : Option Bool) >>= fun x45 =>
some x45
def F_trim_live_1_1 (N : Nat) (x1 : Int) (x5 : (List Int)) (x8 : Int) : Option Bool :=
F_marks_Marks_Has_1 N x5 x8 x1 >>= fun x16 =>
some x16
def F_slices_IndexFunc_int_int_3_l0 (N : Nat) (x2 : (List Int)) (x7 : (List Int)) (x10 : Int) (x147 : Int) : Option (Int ⊕ (Unit ⊕ Int)) :=
if (decide (x147 < (x2.length : Int))) = true then (
idx x2 x147 >>= fun x164 =>
F_trim_live_1_1 N x164 x7 x10 >>= fun x173 =>
if x173 = true then (
some (.inr (.inr x147)))
else (
some (.inl (w64 (x147 + 1)))))
else (
some (.inr (.inl ())))
def F_slices_IndexFunc_int_int_3 (N : Nat) (x2 : (List Int)) (x7 : (List Int)) (x10 : Int) : Option Int :=
((iterO N (fun s => F_slices_IndexFunc_int_int_3_l0 N x2 x7 x10 s) 0) : Option (Unit ⊕ Int)) >>= fun z => match z with
| .inr z => some z
| .inl _ =>
some (-1)
def F_slices_ContainsFunc_int_int_3 (N : Nat) (x2 : (List Int)) (x7 : (List Int)) (x10 : Int) : Option Bool :=
F_slices_IndexFunc_int_int_3 N x2 x7 x10 >>= fun x18 =>
some (decide (x18 ≥ 0))
def F_trim_live_l0 (N : Nat) (x5 : (List Int)) (x7481 : Int) : Option (Int ⊕ Unit) :=
if (decide (x7481 < (x5.length : Int))) = true then (
((idx x5 x7481 >>= fun x7535 =>
((if (x7535 != (-1)) = true then (
F_marks_Marks_Put_1 N x7481 >>= fun _ =>
some ())
else (
some ())) : Option Unit) >>= fun _ =>
some ()) : Option Unit) >>= fun _ =>
some (.inl (w64 (x7481 + 1))))
else (
some (.inr ()))
def F_trim_live_l2 (N : Nat) (x2 : (List (List Int))) (x10070 : Int) : Option (Int ⊕ Unit) :=
if (decide (x10070 < (x2.length : Int))) = true then (
((idx x2 x10070 >>= fun x10185 =>
((F_marks_Marks_Has N x10070 >>= fun _ =>
F_slices_ContainsFunc_int_int_2 N x10185 >>= fun _ =>
some ()) : Option Unit) >>= fun _ =>
((if (decide ((-1) ≥ 0)) = true then (
F_marks_Marks_Put_1 N x10070 >>= fun _ =>
some ())
else (
some ())) : Option Unit) >>= fun _ =>
some x10185) : Option (List Int)) >>= fun _x10181 =>
some (.inl (w64 (x10070 + 1))))
else (
some (.inr ()))
def F_trim_live_l1 (N : Nat) (x2 : (List (List Int))) (x9329 : Bool) : Option (Bool ⊕ Unit) :=
if x9329 = true then (
((iterO N (fun s => F_trim_live_l2 N x2 s) 0) : Option Unit) >>= fun _ =>
some (.inl false))
else (
some (.inr ()))
def F_trim_live_l3 (N : Nat) (x2 : (List (List Int))) (x5 : (List Int)) (x10475 : Int) (x10477 : (List Int)) : Option ((Int × (List Int)) ⊕ (List Int)) :=
if (decide (x10475 < (x5.length : Int))) = true then (
((idx x5 x10475 >>= fun x10574 =>
((if (x10574 != (-1)) = true then (
F_marks_Marks_Put N x10477 (x2.length : Int) x10475 >>= fun (x10595, _x10596) =>
some x10595)
else (
some x10477)) : Option (List Int)) >>= fun x10589 =>
some x10589) : Option (List Int)) >>= fun x10571 =>
some (.inl (w64 (x10475 + 1), x10571)))
else (
some (.inr x10477))
def F_trim_live_l5 (N : Nat) (x2 : (List (List Int))) (x14424 : (List Int)) (x14426 : Int) (x14427 : Bool) : Option (((List Int) × Int × Bool) ⊕ ((List Int) × Bool)) :=
if (decide (x14426 < (x2.length : Int))) = true then (
((idx x2 x14426 >>= fun x14595 =>
((F_marks_Marks_Has_1 N x14424 (x2.length : Int) x14426 >>= fun x14617 =>
if (!x14617) = true then (
F_slices_ContainsFunc_int_int_3 N x14595 x14424 (x2.length : Int) >>= fun x14621 =>
some x14621)
else (
some false)) : Option Bool) >>= fun x14613 =>
((if x14613 = true then (
F_marks_Marks_Put N x14424 (x2.length : Int) x14426 >>= fun (x14639, x14640) =>
some (x14639, x14640))
else (
some (x14424, x14427))) : Option ((List Int) × Bool)) >>= fun (x14632, x14634) =>
some (x14632, x14634)) : Option ((List Int) × Bool)) >>= fun (x14591, x14593) =>
some (.inl (x14591, w64 (x14426 + 1), x14593)))
else (
some (.inr (x14424, x14427)))
def F_trim_live_l4 (N : Nat) (x2 : (List (List Int))) (x13299 : (List Int)) (x13301 : Bool) : Option (((List Int) × Bool) ⊕ (List Int)) :=
if x13301 = true then (
((iterO N (fun s => F_trim_live_l5 N x2 s.1 s.2.1 s.2.2) (x13299, 0, false)) : Option ((List Int) × Bool)) >>= fun (x14310, x14312) =>
some (.inl (x14310, x14312)))
else (
some (.inr x13299))
def F_trim_live (N : Nat) (x2 : (List (List Int))) (x5 : (List Int)) (x8 : (List Int)) : Option (Unit ⊕ (List Int)) :=
F_trim_marked N x2 x5 x8 [] >>= fun z => match z with
| .inl _ => (
((iterO N (fun s => F_trim_live_l0 N x5 s) 0) : Option Unit) >>= fun _ =>
((iterO N (fun s => F_trim_live_l1 N x2 s) true) : Option Unit) >>= fun _ =>
some (.inl ()))
| .inr x7338 => (
((iterO N (fun s => F_trim_live_l3 N x2 x5 s.1 s.2) (0, x7338)) : Option (List Int)) >>= fun x10411 =>
((iterO N (fun s => F_trim_live_l4 N x2 s.1 s.2) (x10411, true)) : Option (List Int)) >>= fun x12623 =>
some (.inr x12623))
def F_trim_kept_l0 (N : Nat) (x1688 : (List Int)) (x1844 : Int) : Option (Int ⊕ Unit) :=
if (decide (x1844 < (x1688.length : Int))) = true then (
((idx x1688 x1844 >>= fun x1904 =>
((F_marks_Marks_Has N x1904 >>= fun _ =>
some ()) : Option Unit) >>= fun _ =>
((some ()) : Option Unit) >>= fun _ =>
some ()) : Option Unit) >>= fun _ =>
some (.inl (w64 (x1844 + 1))))
else (
some (.inr ()))
def F_trim_kept_l1 (N : Nat) (x1927 : (List Int)) (x2083 : Int) : Option (Int ⊕ Unit) :=
if (decide (x2083 < (x1927.length : Int))) = true then (
((idx x1927 x2083 >>= fun x2143 =>
((F_marks_Marks_Has N x2143 >>= fun _ =>
some ()) : Option Unit) >>= fun _ =>
((some ()) : Option Unit) >>= fun _ =>
some ()) : Option Unit) >>= fun _ =>
some (.inl (w64 (x2083 + 1))))
else (
some (.inr ()))
def F_trim_kept_l2 (N : Nat) (x2 : (List (List Int))) (x1673 : (List Int)) (x2174 : (List Int)) (x2550 : Int) (x2553 : (List Int)) : Option ((Int × (List Int)) ⊕ (List Int)) :=
if (decide (x2550 < (x2174.length : Int))) = true then (
((idx x2174 x2550 >>= fun x2695 =>
((F_marks_Marks_Has_1 N x1673 (x2.length : Int) x2695 >>= fun x2710 =>
if x2710 = true then (
some (decide (x2695 > 0)))
else (
some false)) : Option Bool) >>= fun x2706 =>
((if x2706 = true then (
app x2553 ([x2695]) >>= fun x2728 =>
some x2728)
else (
some x2553)) : Option (List Int)) >>= fun x2723 =>
some x2723) : Option (List Int)) >>= fun x2692 =>
some (.inl (w64 (x2550 + 1), x2692)))
else (
some (.inr x2553))
def F_trim_kept_l3 (N : Nat) (x2 : (List (List Int))) (x1673 : (List Int)) (x2741 : (List Int)) (x3117 : Int) (x3120 : (List Int)) : Option ((Int × (List Int)) ⊕ (List Int)) :=
if (decide (x3117 < (x2741.length : Int))) = true then (
((idx x2741 x3117 >>= fun x3262 =>
((F_marks_Marks_Has_1 N x1673 (x2.length : Int) x3262 >>= fun x3277 =>
if x3277 = true then (
some (decide (x3262 > 0)))
else (
some false)) : Option Bool) >>= fun x3273 =>
((if x3273 = true then (
app x3120 ([x3262]) >>= fun x3295 =>
some x3295)
else (
some x3120)) : Option (List Int)) >>= fun x3290 =>
some x3290) : Option (List Int)) >>= fun x3259 =>
some (.inl (w64 (x3117 + 1), x3259)))
else (
some (.inr x3120))
def F_trim_kept (N : Nat) (x2 : (List (List Int))) (x5 : (List Int)) (x8 : (List Int)) : Option (List Int) :=
F_trim_reached N x2 x5 x8 >>= fun z => match z with
| .inl _ => (
F_trim_live N x2 x5 x8 >>= fun z => match z with
| .inl _ => (
F_marks_Marks_List N >>= fun x1688 =>
((iterO N (fun s => F_trim_kept_l0 N x1688 s) 0) : Option Unit) >>= fun _ =>
some ([0]))
| .inr x1681 => (
F_marks_Marks_List_1 N x1681 (x2.length : Int) >>= fun x1927 =>
((iterO N (fun s => F_trim_kept_l1 N x1927 s) 0) : Option Unit) >>= fun _ =>
some ([0])))
| .inr x1673 => (
F_trim_live N x2 x5 x8 >>= fun z => match z with
| .inl _ => (
F_marks_Marks_List N >>= fun x2174 =>
((iterO N (fun s => F_trim_kept_l2 N x2 x1673 x2174 s.1 s.2) (0, [0])) : Option (List Int)) >>= fun x2456 =>
some x2456)
| .inr x2167 => (
F_marks_Marks_List_1 N x2167 (x2.length : Int) >>= fun x2741 =>
((iterO N (fun s => F_trim_kept_l3 N x2 x1673 x2741 s.1 s.2) (0, [0])) : Option (List Int)) >>= fun x3023 =>
some x3023))
def F_trim_Trim_l0 (_N : Nat) (x1995 : (List Int)) (x2098 : Int) (x2100 : (List Int)) : Option ((Int × (List Int)) ⊕ (List Int)) :=
if (decide (x2098 < (x1995.length : Int))) = true then (
idx x1995 x2098 >>= fun x2128 =>
idx x2100 x2128 >>= fun _x2135 =>
setI x2100 x2128 x2098 >>= fun x2142 =>
some (.inl (w64 (x2098 + 1), x2142)))
else (
some (.inr x2100))
def F_trim_Trim_l2 (_N : Nat) (x2073 : (List Int)) (x3307 : (List Int)) (x3407 : (List Int)) (x3410 : Int) : Option (((List Int) × Int) ⊕ (List Int)) :=
if (decide (x3410 < 256)) = true then (
idx x3307 x3410 >>= fun x3435 =>
idx x2073 x3435 >>= fun x3436 =>
idx x3407 x3410 >>= fun _x3443 =>
setI x3407 x3410 x3436 >>= fun x3446 =>
some (.inl (x3446, w64 (x3410 + 1))))
else (
some (.inr x3407))
def F_trim_Trim_l1 (N : Nat) (x2 : (List (List Int))) (x5 : (List Int)) (x1995 : (List Int)) (x2073 : (List Int)) (x3062 : Int) (x3065 : (List (List Int))) (x3069 : (List Int)) : Option ((Int × (List (List Int)) × (List Int)) ⊕ ((List (List Int)) × (List Int))) :=
if (decide (x3062 < (x1995.length : Int))) = true then (
idx x1995 x3062 >>= fun x3300 =>
idx x2 x3300 >>= fun x3307 =>
((iterO N (fun s => F_trim_Trim_l2 N x2073 x3307 s.1 s.2) (x3307, 0)) : Option (List Int)) >>= fun x3382 =>
app x3065 ([x3382]) >>= fun x3453 =>
((idx x5 x3300 >>= fun x3490 =>
app x3069 ([x3490]) >>= fun x3499 =>
some x3499) : Option (List Int)) >>= fun x3487 =>
some (.inl (w64 (x3062 + 1), x3453, x3487)))
else (
some (.inr (x3065, x3069)))
def F_trim_Trim_l3 (_N : Nat) (x8 : (List Int)) (x2073 : (List Int)) (x3800 : (List Int)) (x3802 : Int) : Option (((List Int) × Int) ⊕ (List Int)) :=
if (decide (x3802 < (x8.length : Int))) = true then (
idx x8 x3802 >>= fun x3875 =>
((idx x2073 x3875 >>= fun x3912 =>
app x3800 ([x3912]) >>= fun x3921 =>
some x3921) : Option (List Int)) >>= fun x3909 =>
some (.inl (x3909, w64 (x3802 + 1))))
else (
some (.inr x3800))
def F_trim_Trim (N : Nat) (x2 : (List (List Int))) (x5 : (List Int)) (x8 : (List Int)) : Option ((List (List Int)) × (List Int) × (List Int)) :=
F_subset_Right N x2 x5 x8 >>= fun x1988 =>
if (!x1988) = true then (
some ([], [], []))
else (
F_trim_kept N x2 x5 x8 >>= fun x1995 =>
mk 0 (x2.length : Int) >>= fun x1998 =>
((iterO N (fun s => F_trim_Trim_l0 N x1995 s.1 s.2) (0, x1998)) : Option (List Int)) >>= fun x2073 =>
((iterO N (fun s => F_trim_Trim_l1 N x2 x5 x1995 x2073 s.1 s.2.1 s.2.2) (0, [], [])) : Option ((List (List Int)) × (List Int))) >>= fun (x2830, x2834) =>
((iterO N (fun s => F_trim_Trim_l3 N x8 x2073 s.1 s.2) ([], 0)) : Option (List Int)) >>= fun x3727 =>
some (x2830, x2834, x3727))
def F_slices_Equal_subset_Row_subset_Row_l0 (_N : Nat) (x2 : (List (List Int))) (x5 : (List (List Int))) (x173 : Int) : Option (Int ⊕ (Unit ⊕ Bool)) :=
if (decide (x173 < (x2.length : Int))) = true then (
idx x2 x173 >>= fun x193 =>
idx x5 x173 >>= fun x200 =>
if (x193 != x200) = true then (
some (.inr (.inr false)))
else (
some (.inl (w64 (x173 + 1)))))
else (
some (.inr (.inl ())))
def F_slices_Equal_subset_Row_subset_Row (N : Nat) (x2 : (List (List Int))) (x5 : (List (List Int))) : Option Bool :=
if ((x2.length : Int) != (x5.length : Int)) = true then (
some false)
else (
((iterO N (fun s => F_slices_Equal_subset_Row_subset_Row_l0 N x2 x5 s) 0) : Option (Unit ⊕ Bool)) >>= fun z => match z with
| .inr z => some z
| .inl _ =>
some true)
def F_slices_Equal_int_int_l0 (_N : Nat) (x2 : (List Int)) (x5 : (List Int)) (x173 : Int) : Option (Int ⊕ (Unit ⊕ Bool)) :=
if (decide (x173 < (x2.length : Int))) = true then (
idx x2 x173 >>= fun x193 =>
idx x5 x173 >>= fun x200 =>
if (x193 != x200) = true then (
some (.inr (.inr false)))
else (
some (.inl (w64 (x173 + 1)))))
else (
some (.inr (.inl ())))
def F_slices_Equal_int_int (N : Nat) (x2 : (List Int)) (x5 : (List Int)) : Option Bool :=
if ((x2.length : Int) != (x5.length : Int)) = true then (
some false)
else (
((iterO N (fun s => F_slices_Equal_int_int_l0 N x2 x5 s) 0) : Option (Unit ⊕ Bool)) >>= fun z => match z with
| .inr z => some z
| .inl _ =>
some true)
def F_subset_Same (N : Nat) (x2 : (List (List Int))) (x5 : (List Int)) (x8 : (List Int)) (x11 : (List (List Int))) (x14 : (List Int)) (x17 : (List Int)) : Option Bool :=
((F_slices_Equal_subset_Row_subset_Row N x2 x11 >>= fun x71 =>
if x71 = true then (
F_slices_Equal_int_int N x5 x14 >>= fun x75 =>
if x75 = true then (
F_slices_Equal_int_int N x8 x17 >>= fun x79 =>
some x79)
else (
some false))
else (
some false)) : Option Bool) >>= fun x67 =>
some x67
def F_hopcroft_splitter_later_l0 (_N : Nat) (x26 : Int) (x196 : (List (Int × Int))) (x198 : Int) : Option (((List (Int × Int)) × Int) ⊕ (List (Int × Int))) :=
if (decide (x198 < 256)) = true then (
app x196 ([(x26, IntKind.wrap .u8 x198)]) >>= fun x219 =>
some (.inl (x219, w64 (x198 + 1))))
else (
some (.inr x196))
def F_hopcroft_splitter_later (N : Nat) (_x3 : (List (List Int))) (_x6 : (List Int)) (_x9 : (List Int)) (_x13 : (List (List (List Int)))) (_x16 : (List Int)) (_x21 : (List (List Int))) (x23 : (List (Int × Int))) (x26 : Int) : Option (List (Int × Int)) :=
((iterO N (fun s => F_hopcroft_splitter_later_l0 N x26 s.1 s.2) (x23, 0)) : Option (List (Int × Int))) >>= fun x177 =>
some x177
def F_hopcroft_splitter_begin_l1 (_N : Nat) (x16188 : Int) (x18591 : (List Int)) (x19034 : (List (List (List Int)))) (x19036 : Int) : Option (((List (List (List Int))) × Int) ⊕ (List (List (List Int)))) :=
if (decide (x19036 < 256)) = true then (
idx x18591 x19036 >>= fun x19147 =>
((idx x19034 x19147 >>= fun x19200 =>
idx x19200 x19036 >>= fun x19205 =>
idx x19034 x19147 >>= fun x19213 =>
app x19205 ([x16188]) >>= fun x19222 =>
setI x19213 x19036 x19222 >>= fun x19229 =>
setI x19034 x19147 x19229 >>= fun x19230 =>
some x19230) : Option (List (List (List Int)))) >>= fun x19197 =>
some (.inl (x19197, w64 (x19036 + 1))))
else (
some (.inr x19034))
def F_hopcroft_splitter_begin_l0 (N : Nat) (x3 : (List (List Int))) (x6 : (List Int)) (x16179 : (List (List (List Int)))) (x16182 : (List Int)) (x16186 : (List (List Int))) (x16187 : (List (Int × Int))) (x16188 : Int) : Option (((List (List (List Int))) × (List Int) × (List (List Int)) × (List (Int × Int)) × Int) ⊕ ((List (List (List Int))) × (List Int) × (List (List Int)))) :=
if (decide (x16188 < (x3.length : Int))) = true then (
((idx x3 x16188 >>= fun x18591 =>
((iterO N (fun s => F_hopcroft_splitter_begin_l1 N x16188 x18591 s.1 s.2) (x16179, 0)) : Option (List (List (List Int)))) >>= fun x18924 =>
idx x6 x16188 >>= fun x19250 =>
((if (!((mget x16187 x19250).isSome)) = true then (
idx x6 x16188 >>= fun x19278 =>
app x16186 ([[]]) >>= fun x19289 =>
some (x19289, (mset x16187 x19278 (x16186.length : Int)), (x16186.length : Int)))
else (
some (x16186, x16187, (mget x16187 x19250).getD 0))) : Option ((List (List Int)) × (List (Int × Int)) × Int)) >>= fun (x19274, x19275, x19276) =>
idx x16182 x16188 >>= fun _x19294 =>
setI x16182 x16188 x19276 >>= fun x19301 =>
((idx x19274 x19276 >>= fun x19343 =>
app x19343 ([x16188]) >>= fun x19356 =>
setI x19274 x19276 x19356 >>= fun x19363 =>
some x19363) : Option (List (List Int))) >>= fun x19341 =>
some (x18924, x19301, x19341, x19275)) : Option ((List (List (List Int))) × (List Int) × (List (List Int)) × (List (Int × Int)))) >>= fun (x18581, x18584, x18588, x18589) =>
some (.inl (x18581, x18584, x18588, x18589, w64 (x16188 + 1))))
else (
some (.inr (x16179, x16182, x16186)))
def F_hopcroft_splitter_begin_l2 (N : Nat) (x3 : (List (List Int))) (x6 : (List Int)) (x9 : (List Int)) (x14570 : (List (List (List Int)))) (x14573 : (List Int)) (x14577 : (List (List Int))) (x19440 : (List (Int × Int))) (x19442 : Int) : Option (((List (Int × Int)) × Int) ⊕ (List (Int × Int))) :=
if (decide (x19442 < (x14577.length : Int))) = true then (
F_hopcroft_splitter_later N x3 x6 x9 x14570 x14573 x14577 x19440 x19442 >>= fun x19463 =>
some (.inl (x19463, w64 (x19442 + 1))))
else (
some (.inr x19440))
def F_hopcroft_splitter_begin (N : Nat) (x3 : (List (List Int))) (x6 : (List Int)) (x9 : (List Int)) (_x13 : (List (List (List Int)))) (_x16 : (List Int)) (x21 : (List (List Int))) (x23 : (List (Int × Int))) : Option ((List (List (List Int))) × (List Int) × (List (List Int)) × (List (Int × Int))) :=
mk (List.replicate 256 []) (x3.length : Int) >>= fun x9755 =>
mk 0 (x3.length : Int) >>= fun x9761 =>
((iterO N (fun s => F_hopcroft_splitter_begin_l0 N x3 x6 s.1 s.2.1 s.2.2.1 s.2.2.2.1 s.2.2.2.2) (x9755, x9761, x21, ([] : List (Int × Int)), 0)) : Option ((List (List (List Int))) × (List Int) × (List (List Int)))) >>= fun (x14570, x14573, x14577) =>
((iterO N (fun s => F_hopcroft_splitter_begin_l2 N x3 x6 x9 x14570 x14573 x14577 s.1 s.2) (x23, 0)) : Option (List (Int × Int))) >>= fun x19423 =>
some (x14570, x14573, x14577, x19423)
def F_slices_Index_int_int_l0 (_N : Nat) (x2 : (List Int)) (x4 : Int) (x101 : Int) : Option (Int ⊕ (Unit ⊕ Int)) :=
if (decide (x101 < (x2.length : Int))) = true then (
idx x2 x101 >>= fun x114 =>
if (x4 == x114) = true then (
some (.inr (.inr x101)))
else (
some (.inl (w64 (x101 + 1)))))
else (
some (.inr (.inl ())))
def F_slices_Index_int_int (N : Nat) (x2 : (List Int)) (x4 : Int) : Option Int :=
((iterO N (fun s => F_slices_Index_int_int_l0 N x2 x4 s) 0) : Option (Unit ⊕ Int)) >>= fun z => match z with
| .inr z => some z
| .inl _ =>
some (-1)
def F_slices_Contains_int_int (N : Nat) (x2 : (List Int)) (x4 : Int) : Option Bool :=
F_slices_Index_int_int N x2 x4 >>= fun x12 =>
some (decide (x12 ≥ 0))
def F_hopcroft_splitter_split_l0 (N : Nat) (x28 : (List Int)) (x967 : (List Int)) (x1473 : Int) (x1476 : (List Int)) (x1480 : (List Int)) : Option ((Int × (List Int) × (List Int)) ⊕ ((List Int) × (List Int))) :=
if (decide (x1473 < (x967.length : Int))) = true then (
((idx x967 x1473 >>= fun x1667 =>
F_slices_Contains_int_int N x28 x1667 >>= fun x1674 =>
((if x1674 = true then (
app x1476 ([x1667]) >>= fun x1703 =>
some (x1703, x1480))
else (
app x1480 ([x1667]) >>= fun x1711 =>
some (x1476, x1711))) : Option ((List Int) × (List Int))) >>= fun (x1694, x1698) =>
some (x1694, x1698)) : Option ((List Int) × (List Int))) >>= fun (x1660, x1664) =>
some (.inl (w64 (x1473 + 1), x1660, x1664)))
else (
some (.inr (x1476, x1480)))
def F_hopcroft_splitter_split_l1 (_N : Nat) (x21 : (List (List Int))) (x1729 : (List Int)) (x1843 : (List Int)) (x1845 : Int) : Option (((List Int) × Int) ⊕ (List Int)) :=
if (decide (x1845 < (x1729.length : Int))) = true then (
idx x1729 x1845 >>= fun x1870 =>
idx x1843 x1870 >>= fun _x1875 =>
setI x1843 x1870 (x21.length : Int) >>= fun x1882 =>
some (.inl (x1882, w64 (x1845 + 1))))
else (
some (.inr x1843))
def F_hopcroft_splitter_split (N : Nat) (x3 : (List (List Int))) (x6 : (List Int)) (x9 : (List Int)) (x13 : (List (List (List Int)))) (x16 : (List Int)) (x21 : (List (List Int))) (x23 : (List (Int × Int))) (x26 : Int) (x28 : (List Int)) : Option ((List Int) × (List (List Int)) × (List (Int × Int))) :=
idx x21 x26 >>= fun x967 =>
((iterO N (fun s => F_hopcroft_splitter_split_l0 N x28 x967 s.1 s.2.1 s.2.2) (0, [], [])) : Option ((List Int) × (List Int))) >>= fun (x1345, x1349) =>
((if ((x1345.length : Int) == 0) = true then (
some true)
else (
some ((x1349.length : Int) == 0))) : Option Bool) >>= fun x1720 =>
if x1720 = true then (
some (x16, x21, x23))
else (
((if (decide ((x1345.length : Int) < (x1349.length : Int))) = true then (
some (x1349, x1345))
else (
some (x1345, x1349))) : Option ((List Int) × (List Int))) >>= fun (x1725, x1729) =>
idx x21 x26 >>= fun _x1733 =>
setI x21 x26 x1725 >>= fun x1743 =>
app x1743 ([x1729]) >>= fun x1748 =>
((iterO N (fun s => F_hopcroft_splitter_split_l1 N x21 x1729 s.1 s.2) (x16, 0)) : Option (List Int)) >>= fun x1819 =>
F_hopcroft_splitter_later N x3 x6 x9 x13 x1819 x1748 x23 (x21.length : Int) >>= fun x1891 =>
some (x1819, x1748, x1891))
def F_hopcroft_splitter_run_l1 (_N : Nat) (x13 : (List (List (List Int)))) (x13830 : Int) (x13902 : (List Int)) (x14162 : (List Int)) (x14164 : Int) : Option (((List Int) × Int) ⊕ (List Int)) :=
if (decide (x14164 < (x13902.length : Int))) = true then (
idx x13902 x14164 >>= fun x14229 =>
((idx x13 x14229 >>= fun x14261 =>
idx x14261 x13830 >>= fun x14266 =>
app x14162 x14266 >>= fun x14274 =>
some x14274) : Option (List Int)) >>= fun x14258 =>
some (.inl (x14258, w64 (x14164 + 1))))
else (
some (.inr x14162))
def F_hopcroft_splitter_run_l2 (N : Nat) (x12552 : (List Int)) (x14097 : (List Int)) (x14660 : (List Int)) (x14662 : Int) : Option (((List Int) × Int) ⊕ (List Int)) :=
if (decide (x14662 < (x14097.length : Int))) = true then (
((idx x14097 x14662 >>= fun x14803 =>
idx x12552 x14803 >>= fun x14810 =>
F_slices_Contains_int_int N x14660 x14810 >>= fun x14819 =>
((if (!x14819) = true then (
app x14660 ([x14810]) >>= fun x14836 =>
some x14836)
else (
some x14660)) : Option (List Int)) >>= fun x14831 =>
some x14831) : Option (List Int)) >>= fun x14800 =>
some (.inl (x14800, w64 (x14662 + 1))))
else (
some (.inr x14660))
def F_hopcroft_splitter_run_l3 (N : Nat) (x3 : (List (List Int))) (x6 : (List Int)) (x9 : (List Int)) (x13 : (List (List (List Int)))) (x14097 : (List Int)) (x14564 : (List Int)) (x14985 : (List Int)) (x14989 : (List (List Int))) (x14992 : (List (Int × Int))) (x14994 : Int) : Option (((List Int) × (List (List Int)) × (List (Int × Int)) × Int) ⊕ ((List Int) × (List (List Int)) × (List (Int × Int)))) :=
if (decide (x14994 < (x14564.length : Int))) = true then (
idx x14564 x14994 >>= fun x15030 =>
F_hopcroft_splitter_split N x3 x6 x9 x13 x14985 x14989 x14992 x15030 x14097 >>= fun (x15044, x15045, x15046) =>
some (.inl (x15044, x15045, x15046, w64 (x14994 + 1))))
else (
some (.inr (x14985, x14989, x14992)))
def F_hopcroft_splitter_run_l0 (N : Nat) (x3 : (List (List Int))) (x6 : (List Int)) (x9 : (List Int)) (x13 : (List (List (List Int)))) (x12552 : (List Int)) (x12556 : (List (List Int))) (x12559 : (List (Int × Int))) : Option (((List Int) × (List (List Int)) × (List (Int × Int))) ⊕ ((List Int) × (List (List Int)) × (List (Int × Int)))) :=
if (decide ((x12559.length : Int) > 0)) = true then (
((idx x12559 (w64 ((x12559.length : Int) - 1)) >>= fun x13832 =>
some (x13832.1, x13832.2)) : Option (Int × Int)) >>= fun (x13829, x13830) =>
((slc x12559 0 (w64 ((x12559.length : Int) - 1)) >>= fun x13877 =>
some x13877) : Option (List (Int × Int))) >>= fun x13874 =>
idx x12556 x13829 >>= fun x13902 =>
((iterO N (fun s => F_hopcroft_splitter_run_l1 N x13 x13830 x13902 s.1 s.2) ([], 0)) : Option (List Int)) >>= fun x14097 =>
((iterO N (fun s => F_hopcroft_splitter_run_l2 N x12552 x14097 s.1 s.2) ([], 0)) : Option (List Int)) >>= fun x14564 =>
((iterO N (fun s => F_hopcroft_splitter_run_l3 N x3 x6 x9 x13 x14097 x14564 s.1 s.2.1 s.2.2.1 s.2.2.2) (x12552, x12556, x13874, 0)) : Option ((List Int) × (List (List Int)) × (List (Int × Int)))) >>= fun (x14943, x14947, x14950) =>
some (.inl (x14943, x14947, x14950)))
else (
some (.inr (x12552, x12556, x12559)))
def F_hopcroft_splitter_run (N : Nat) (x3 : (List (List Int))) (x6 : (List Int)) (x9 : (List Int)) (x13 : (List (List (List Int)))) (x16 : (List Int)) (x21 : (List (List Int))) (x23 : (List (Int × Int))) : Option ((List Int) × (List (List Int)) × (List (Int × Int))) :=
((iterO N (fun s => F_hopcroft_splitter_run_l0 N x3 x6 x9 x13 s.1 s.2.1 s.2.2) (x16, x21, x23)) : Option ((List Int) × (List (List Int)) × (List (Int × Int)))) >>= fun (x11293, x11297, x11300) =>
some (x11293, x11297, x11300)
def F_hopcroft_parts_l0 (_N : Nat) (x414 : (List Int)) (x644 : Int) (x645 : (List (Int × Int))) (x648 : (List Int)) : Option ((Int × (List (Int × Int)) × (List Int)) ⊕ ((List (Int × Int)) × (List Int))) :=
if (decide (x644 < (x414.length : Int))) = true then (
((idx x414 x644 >>= fun x733 =>
((if (!((mget x645 x733).isSome)) = true then (
some (mset x645 x733 (x645.length : Int)))
else (
some x645)) : Option (List (Int × Int))) >>= fun x741 =>
app x648 ([(mget x741 x733).getD 0]) >>= fun x747 =>
some (x741, x747)) : Option ((List (Int × Int)) × (List Int))) >>= fun (x727, x730) =>
some (.inl (w64 (x644 + 1), x727, x730)))
else (
some (.inr (x645, x648)))
def F_hopcroft_parts (N : Nat) (x2 : (List (List Int))) (x5 : (List Int)) (x8 : (List Int)) : Option ((List Int) × Int) :=
F_hopcroft_splitter_begin N x2 x5 x8 ([]) ([]) ([]) ([]) >>= fun (x399, x400, x401, x402) =>
F_hopcroft_splitter_run N x2 x5 x8 x399 x400 x401 x402 >>= fun (x414, _x415, _x416) =>
((iterO N (fun s => F_hopcroft_parts_l0 N x414 s.1 s.2.1 s.2.2) (0, ([] : List (Int × Int)), [])) : Option ((List (Int × Int)) × (List Int))) >>= fun (x585, x588) =>
some (x588, (x585.length : Int))
def F_hopcroft_Merge_l1 (_N : Nat) (x2864 : (List Int)) (x4887 : Int) (x4894 : (List Int)) (x5109 : Int) (x5111 : (List (List Int))) : Option ((Int × (List (List Int))) ⊕ (List (List Int))) :=
if (decide (x5109 < 256)) = true then (
idx x4894 x5109 >>= fun x5167 =>
((idx x2864 x5167 >>= fun x5192 =>
idx x5111 x4887 >>= fun x5199 =>
idx x5199 x5109 >>= fun _x5206 =>
setI x5199 x5109 x5192 >>= fun x5208 =>
setI x5111 x4887 x5208 >>= fun x5209 =>
some x5209) : Option (List (List Int))) >>= fun x5189 =>
some (.inl (w64 (x5109 + 1), x5189)))
else (
some (.inr x5111))
def F_hopcroft_Merge_l0 (N : Nat) (x2 : (List (List Int))) (x5 : (List Int)) (x2864 : (List Int)) (x4501 : Int) (x4503 : (List (List Int))) (x4506 : (List Int)) : Option ((Int × (List (List Int)) × (List Int)) ⊕ ((List (List Int)) × (List Int))) :=
if (decide (x4501 < (x2864.length : Int))) = true then (
idx x2864 x4501 >>= fun x4887 =>
idx x2 x4501 >>= fun x4894 =>
((iterO N (fun s => F_hopcroft_Merge_l1 N x2864 x4887 x4894 s.1 s.2) (0, x4503)) : Option (List (List Int))) >>= fun x5056 =>
((idx x5 x4501 >>= fun x5236 =>
idx x4506 x4887 >>= fun _x5243 =>
setI x4506 x4887 x5236 >>= fun x5250 =>
some x5250) : Option (List Int)) >>= fun x5233 =>
some (.inl (w64 (x4501 + 1), x5056, x5233)))
else (
some (.inr (x4503, x4506)))
def F_hopcroft_Merge_l2 (_N : Nat) (x8 : (List Int)) (x2864 : (List Int)) (x5539 : (List Int)) (x5541 : Int) : Option (((List Int) × Int) ⊕ (List Int)) :=
if (decide (x5541 < (x8.length : Int))) = true then (
idx x8 x5541 >>= fun x5614 =>
((idx x2864 x5614 >>= fun x5651 =>
app x5539 ([x5651]) >>= fun x5660 =>
some x5660) : Option (List Int)) >>= fun x5648 =>
some (.inl (x5648, w64 (x5541 + 1))))
else (
some (.inr x5539))
def F_hopcroft_Merge (N : Nat) (x2 : (List (List Int))) (x5 : (List Int)) (x8 : (List Int)) : Option ((List (List Int)) × (List Int) × (List Int)) :=
F_subset_Right N x2 x5 x8 >>= fun x2857 =>
if (!x2857) = true then (
some ([], [], []))
else (
F_hopcroft_parts N x2 x5 x8 >>= fun (x2864, x2865) =>
((mk (List.replicate 256 0) x2865 >>= fun x2934 =>
mk 0 x2865 >>= fun x2938 =>
some (x2934, x2938)) : Option ((List (List Int)) × (List Int))) >>= fun (x2927, x2931) =>
((iterO N (fun s => F_hopcroft_Merge_l0 N x2 x5 x2864 s.1 s.2.1 s.2.2) (0, x2927, x2931)) : Option ((List (List Int)) × (List Int))) >>= fun (x4120, x4123) =>
((iterO N (fun s => F_hopcroft_Merge_l2 N x8 x2864 s.1 s.2) ([], 0)) : Option (List Int)) >>= fun x5466 =>
some (x4120, x4123, x5466))
def F_hopcroft_Least (N : Nat) (x2 : (List (List Int))) (x5 : (List Int)) (x8 : (List Int)) : Option ((List (List Int)) × (List Int) × (List Int)) :=
F_trim_Trim N x2 x5 x8 >>= fun (x69, x70, x71) =>
F_hopcroft_Merge N x69 x70 x71 >>= fun (x84, x85, x86) =>
some (x84, x85, x86)
def F_dofferref19_Far_l1 (_N : Nat) (x2 : (List (List Int))) (x5 : (List Int)) (x262929 : Int) (x264106 : (List Int)) (x264108 : Int) : Option (((List Int) × Int) ⊕ (List Int)) :=
if (decide (x264108 < (x2.length : Int))) = true then (
((idx x264106 x264108 >>= fun _x264282 =>
setI x264106 x264108 (-1) >>= fun x264289 =>
idx x5 x262929 >>= fun x264293 =>
idx x5 x264108 >>= fun x264300 =>
((if (x264293 != x264300) = true then (
idx x264289 x264108 >>= fun _x264322 =>
setI x264289 x264108 0 >>= fun x264329 =>
some x264329)
else (
some x264289)) : Option (List Int)) >>= fun x264319 =>
some x264319) : Option (List Int)) >>= fun x264279 =>
some (.inl (x264279, w64 (x264108 + 1))))
else (
some (.inr x264106))
def F_dofferref19_Far_l0 (N : Nat) (x2 : (List (List Int))) (x5 : (List Int)) (x262928 : (List (List Int))) (x262929 : Int) : Option (((List (List Int)) × Int) ⊕ (List (List Int))) :=
if (decide (x262929 < (x2.length : Int))) = true then (
mk 0 (x2.length : Int) >>= fun x263641 =>
((iterO N (fun s => F_dofferref19_Far_l1 N x2 x5 x262929 s.1 s.2) (x263641, 0)) : Option (List Int)) >>= fun x263989 =>
app x262928 ([x263989]) >>= fun x264339 =>
some (.inl (x264339, w64 (x262929 + 1))))
else (
some (.inr x262928))
def F_dofferref19_Far_l5 (_N : Nat) (x2 : (List (List Int))) (x434887 : Int) (x505946 : Int) (x517789 : Int) (x519762 : Int) (x519764 : (List (List Int))) (x519765 : Bool) : Option ((Int × (List (List Int)) × Bool) ⊕ ((List (List Int)) × Bool)) :=
((if (decide (x519762 < 256)) = true then (
idx x519764 x505946 >>= fun x519980 =>
idx x519980 x517789 >>= fun x519989 =>
some (decide (x519989 < 0)))
else (
some false)) : Option Bool) >>= fun x519978 =>
if x519978 = true then (
((idx x2 x505946 >>= fun x520076 =>
idx x520076 x519762 >>= fun x520083 =>
idx x519764 x520083 >>= fun x520088 =>
idx x2 x517789 >>= fun x520097 =>
idx x520097 x519762 >>= fun x520104 =>
idx x520088 x520104 >>= fun x520109 =>
((if (x520109 == (w64 (x434887 - 1))) = true then (
idx x519764 x505946 >>= fun x520135 =>
idx x520135 x517789 >>= fun _x520144 =>
setI x520135 x517789 x434887 >>= fun x520149 =>
setI x519764 x505946 x520149 >>= fun x520150 =>
some (x520150, true))
else (
some (x519764, x519765))) : Option ((List (List Int)) × Bool)) >>= fun (x520132, x520133) =>
some (x520132, x520133)) : Option ((List (List Int)) × Bool)) >>= fun (x520073, x520074) =>
some (.inl (w64 (x519762 + 1), x520073, x520074)))
else (
some (.inr (x519764, x519765)))
def F_dofferref19_Far_l4 (N : Nat) (x2 : (List (List Int))) (x434887 : Int) (x505946 : Int) (x517789 : Int) (x517791 : (List (List Int))) (x517792 : Bool) : Option ((Int × (List (List Int)) × Bool) ⊕ ((List (List Int)) × Bool)) :=
if (decide (x517789 < (x2.length : Int))) = true then (
((iterO N (fun s => F_dofferref19_Far_l5 N x2 x434887 x505946 x517789 s.1 s.2.1 s.2.2) (0, x517791, x517792)) : Option ((List (List Int)) × Bool)) >>= fun (x519565, x519566) =>
some (.inl (w64 (x517789 + 1), x519565, x519566)))
else (
some (.inr (x517791, x517792)))
def F_dofferref19_Far_l3 (N : Nat) (x2 : (List (List Int))) (x434887 : Int) (x505946 : Int) (x505948 : (List (List Int))) (x505949 : Bool) : Option ((Int × (List (List Int)) × Bool) ⊕ ((List (List Int)) × Bool)) :=
if (decide (x505946 < (x2.length : Int))) = true then (
((iterO N (fun s => F_dofferref19_Far_l4 N x2 x434887 x505946 s.1 s.2.1 s.2.2) (0, x505948, x505949)) : Option ((List (List Int)) × Bool)) >>= fun (x516605, x516606) =>
some (.inl (w64 (x505946 + 1), x516605, x516606)))
else (
some (.inr (x505948, x505949)))
def F_dofferref19_Far_l2 (N : Nat) (x2 : (List (List Int))) (x434886 : (List (List Int))) (x434887 : Int) : Option (((List (List Int)) × Int) ⊕ (List (List Int))) :=
((iterO N (fun s => F_dofferref19_Far_l3 N x2 x434887 s.1 s.2.1 s.2.2) (0, x434886, false)) : Option ((List (List Int)) × Bool)) >>= fun (x498840, x498841) =>
if (!x498841) = true then (
some (.inr x498840))
else (
some (.inl (x498840, w64 (x434887 + 1))))
def F_dofferref19_Far (N : Nat) (x2 : (List (List Int))) (x5 : (List Int)) (_x8 : (List Int)) : Option (List (List Int)) :=
((iterO N (fun s => F_dofferref19_Far_l0 N x2 x5 s.1 s.2) ([], 0)) : Option (List (List Int))) >>= fun x262217 =>
iterO N (fun s => F_dofferref19_Far_l2 N x2 s.1 s.2) (x262217, 1)
def F_dofferref19_Parts_l1 (_N : Nat) (x5438 : (List (List Int))) (x9047 : Int) (x9050 : (List Int)) (x10691 : Int) (x10692 : Int) : Option ((Int × Int) ⊕ Int) :=
((if (decide (x10692 < x9047)) = true then (
some (decide (x10691 < 0)))
else (
some false)) : Option Bool) >>= fun x10767 =>
if x10767 = true then (
((idx x5438 x9047 >>= fun x10803 =>
idx x10803 x10692 >>= fun x10812 =>
((if (decide (x10812 < 0)) = true then (
idx x9050 x10692 >>= fun x10826 =>
some x10826)
else (
some x10691)) : Option Int) >>= fun x10824 =>
some x10824) : Option Int) >>= fun x10801 =>
some (.inl (x10801, w64 (x10692 + 1))))
else (
some (.inr x10691))
def F_dofferref19_Parts_l0 (N : Nat) (x2 : (List (List Int))) (x5438 : (List (List Int))) (x9047 : Int) (x9050 : (List Int)) (x9052 : Int) : Option ((Int × (List Int) × Int) ⊕ (List Int)) :=
if (decide (x9047 < (x2.length : Int))) = true then (
((((iterO N (fun s => F_dofferref19_Parts_l1 N x5438 x9047 x9050 s.1 s.2) ((-1), 0)) : Option Int) >>= fun x10619 =>
((if (decide (x10619 < 0)) = true then (
some (w64 (x9052 + 1), x9052))
else (
some (x9052, x10619))) : Option (Int × Int)) >>= fun (x10836, x10837) =>
app x9050 ([x10837]) >>= fun x10842 =>
some (x10842, x10836)) : Option ((List Int) × Int)) >>= fun (x10401, x10403) =>
some (.inl (w64 (x9047 + 1), x10401, x10403)))
else (
some (.inr x9050))
def F_dofferref19_Parts (N : Nat) (x2 : (List (List Int))) (x5 : (List Int)) (x8 : (List Int)) : Option (List Int) :=
F_dofferref19_Far N x2 x5 x8 >>= fun x5438 =>
((iterO N (fun s => F_dofferref19_Parts_l0 N x2 x5438 s.1 s.2.1 s.2.2) (0, [], 0)) : Option (List Int)) >>= fun x8145 =>
some x8145
def F_dofferlaw20_CanonOne_l0 (_N : Nat) (x2 : (List (List Int))) (x10 : Int) (x5904 : (List Int)) (x5906 : Int) : Option (((List Int) × Int) ⊕ (List Int)) :=
if (decide (x5906 < (x2.length : Int))) = true then (
nz (w64 ((x2.length : Int) - 1)) >>= fun _x5927 =>
idx x5904 x5906 >>= fun _x5928 =>
setI x5904 x5906 (w64 (1 + ((w64 ((w64 (x5906 - 1)) + (IntKind.wrap .i64 ((IntKind.wrap .u64 x10).tmod (IntKind.wrap .u64 (x2.length : Int)))))).tmod (w64 ((x2.length : Int) - 1))))) >>= fun x5935 =>
some (.inl (x5935, w64 (x5906 + 1))))
else (
some (.inr x5904))
def F_dofferlaw20_CanonOne_l2 (_N : Nat) (x5884 : (List Int)) (x7949 : Int) (x8429 : (List Int)) (x8703 : Int) (x8705 : (List (List Int))) : Option ((Int × (List (List Int))) ⊕ (List (List Int))) :=
if (decide (x8703 < 256)) = true then (
idx x8429 x8703 >>= fun x8775 =>
((idx x5884 x7949 >>= fun x8807 =>
idx x5884 x8775 >>= fun x8814 =>
idx x8705 x8807 >>= fun x8821 =>
idx x8821 x8703 >>= fun _x8828 =>
setI x8821 x8703 x8814 >>= fun x8830 =>
setI x8705 x8807 x8830 >>= fun x8831 =>
some x8831) : Option (List (List Int))) >>= fun x8804 =>
some (.inl (w64 (x8703 + 1), x8804)))
else (
some (.inr x8705))
def F_dofferlaw20_CanonOne_l1 (N : Nat) (x2 : (List (List Int))) (x5 : (List Int)) (x5884 : (List Int)) (x7949 : Int) (x7951 : (List (List Int))) (x7954 : (List Int)) : Option ((Int × (List (List Int)) × (List Int)) ⊕ ((List (List Int)) × (List Int))) :=
if (decide (x7949 < (x2.length : Int))) = true then (
idx x2 x7949 >>= fun x8429 =>
((iterO N (fun s => F_dofferlaw20_CanonOne_l2 N x5884 x7949 x8429 s.1 s.2) (0, x7951)) : Option (List (List Int))) >>= fun x8636 =>
((idx x5884 x7949 >>= fun x8865 =>
idx x5 x7949 >>= fun x8872 =>
idx x7954 x8865 >>= fun _x8879 =>
setI x7954 x8865 x8872 >>= fun x8886 =>
some x8886) : Option (List Int)) >>= fun x8862 =>
some (.inl (w64 (x7949 + 1), x8636, x8862)))
else (
some (.inr (x7951, x7954)))
def F_dofferlaw20_CanonOne_l3 (_N : Nat) (x8 : (List Int)) (x5884 : (List Int)) (x9173 : Int) (x9176 : (List Int)) : Option ((Int × (List Int)) ⊕ (List Int)) :=
if (decide (x9173 < (x8.length : Int))) = true then (
idx x8 x9173 >>= fun x9250 =>
((idx x5884 x9250 >>= fun x9287 =>
app x9176 ([x9287]) >>= fun x9296 =>
some x9296) : Option (List Int)) >>= fun x9284 =>
some (.inl (w64 (x9173 + 1), x9284)))
else (
some (.inr x9176))
def F_dofferlaw20_CanonOne (N : Nat) (x2 : (List (List Int))) (x5 : (List Int)) (x8 : (List Int)) (x10 : Int) : Option Bool :=
F_dofferlaw20_alive N >>= fun x5813 =>
if (!x5813) = true then (
some false)
else (
((if (decide ((x2.length : Int) > 14)) = true then (
some true)
else (
F_subset_Right N x2 x5 x8 >>= fun x5823 =>
some (!x5823))) : Option Bool) >>= fun x5819 =>
if x5819 = true then (
some true)
else (
mk 0 (x2.length : Int) >>= fun x5826 =>
nz (IntKind.wrap .u64 (x2.length : Int)) >>= fun _x5830 =>
((iterO N (fun s => F_dofferlaw20_CanonOne_l0 N x2 x10 s.1 s.2) (x5826, 1)) : Option (List Int)) >>= fun x5884 =>
((mk (List.replicate 256 0) (x2.length : Int) >>= fun x6006 =>
mk 0 (x2.length : Int) >>= fun x6010 =>
some (x6006, x6010)) : Option ((List (List Int)) × (List Int))) >>= fun (x5999, x6003) =>
((iterO N (fun s => F_dofferlaw20_CanonOne_l1 N x2 x5 x5884 s.1 s.2.1 s.2.2) (0, x5999, x6003)) : Option ((List (List Int)) × (List Int))) >>= fun (x7474, x7477) =>
((iterO N (fun s => F_dofferlaw20_CanonOne_l3 N x8 x5884 s.1 s.2) (0, [])) : Option (List Int)) >>= fun x9102 =>
((F_hopcroft_Least N x2 x5 x8 >>= fun (x10449, x10450, x10451) =>
F_canon_Canon N x10449 x10450 x10451 >>= fun (x10464, x10465, x10466) =>
F_hopcroft_Least N x7474 x7477 x9102 >>= fun (x10479, x10480, x10481) =>
F_canon_Canon N x10479 x10480 x10481 >>= fun (x10494, x10495, x10496) =>
some (x10464, x10465, x10466, x10494, x10495, x10496)) : Option ((List (List Int)) × (List Int) × (List Int) × (List (List Int)) × (List Int) × (List Int))) >>= fun (x10417, x10421, x10425, x10430, x10434, x10438) =>
((F_subset_Right N x7474 x7477 x9102 >>= fun x11573 =>
if x11573 = true then (
F_subset_Same N x10417 x10421 x10425 x10430 x10434 x10438 >>= fun x11577 =>
if x11577 = true then (
F_canon_Canon N x10417 x10421 x10425 >>= fun (x11587, x11588, x11589) =>
F_subset_Same N x11587 x11588 x11589 x10417 x10421 x10425 >>= fun x11596 =>
some x11596)
else (
some false))
else (
some false)) : Option Bool) >>= fun x11569 =>
some x11569))
end Go.Proofs.YteiaphkejkgfkaaDoor
