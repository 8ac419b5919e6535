/-
  The pure functions, printed by my program: what each function of the code computes.
-/
import Derived.Test.YteiaphkejkgfkaaDoorEngL
namespace Go.Proofs.YteiaphkejkgfkaaDoor
open Go Go.Eng
set_option maxRecDepth 100000
def F_subset_Right_1 (N : Nat) (x1 : Int) (x3 : Int) : Option Bool :=
((if (decide (x1 < 0)) = true then (
some true)
else (
some (decide (x1 ≥ x3)))) : Option Bool) >>= fun x8 =>
some x8
def F_slices_IndexFunc_int_int_l0 (N : Nat) (x2 : (List Int)) (x5 : Int) (x142 : Int) : Option (Int ⊕ (Unit ⊕ Int)) :=
if (decide (x142 < (x2.length : Int))) = true then (
idx x2 x142 >>= fun x159 =>
F_subset_Right_1 N x159 x5 >>= fun x168 =>
if x168 = true then (
some (.inr (.inr x142)))
else (
some (.inl (w64 (x142 + 1)))))
else (
some (.inr (.inl ())))
def F_slices_IndexFunc_int_int (N : Nat) (x2 : (List Int)) (x5 : Int) : Option Int :=
((iterO N (fun s => F_slices_IndexFunc_int_int_l0 N x2 x5 s) 0) : Option (Unit ⊕ Int)) >>= fun z => match z with
| .inr z => some z
| .inl _ =>
some (-1)
def F_slices_ContainsFunc_int_int (N : Nat) (x2 : (List Int)) (x5 : Int) : Option Bool :=
F_slices_IndexFunc_int_int N x2 x5 >>= fun x13 =>
some (decide (x13 ≥ 0))
def F_subset_Right_2 (N : Nat) (x1 : Int) : Option Bool :=
((if (decide (x1 < (-1))) = true then (
some true)
else (
some (decide (x1 ≥ 48)))) : Option Bool) >>= fun x6 =>
some x6
def F_slices_IndexFunc_int_int_1_l0 (N : Nat) (x2 : (List Int)) (x140 : Int) : Option (Int ⊕ (Unit ⊕ Int)) :=
if (decide (x140 < (x2.length : Int))) = true then (
idx x2 x140 >>= fun x157 =>
F_subset_Right_2 N x157 >>= fun x166 =>
if x166 = true then (
some (.inr (.inr x140)))
else (
some (.inl (w64 (x140 + 1)))))
else (
some (.inr (.inl ())))
def F_slices_IndexFunc_int_int_1 (N : Nat) (x2 : (List Int)) : Option Int :=
((iterO N (fun s => F_slices_IndexFunc_int_int_1_l0 N x2 s) 0) : Option (Unit ⊕ Int)) >>= fun z => match z with
| .inr z => some z
| .inl _ =>
some (-1)
def F_slices_ContainsFunc_int_int_1 (N : Nat) (x2 : (List Int)) : Option Bool :=
F_slices_IndexFunc_int_int_1 N x2 >>= fun x11 =>
some (decide (x11 ≥ 0))
def F_subset_Right_l0 (N : Nat) (x2 : (List (List Int))) (x242 : Int) : Option (Int ⊕ (Unit ⊕ Bool)) :=
if (decide (x242 < (x2.length : Int))) = true then (
idx x2 x242 >>= fun x262 =>
F_slices_ContainsFunc_int_int N x262 (x2.length : Int) >>= fun x274 =>
if x274 = true then (
some (.inr (.inr false)))
else (
some (.inl (w64 (x242 + 1)))))
else (
some (.inr (.inl ())))
def F_subset_Right (N : Nat) (x2 : (List (List Int))) (x5 : (List Int)) (x8 : (List Int)) : Option Bool :=
((if (decide ((x2.length : Int) < 1)) = true then (
some true)
else (
if (decide ((x2.length : Int) > 200)) = true then (
some true)
else (
if ((x5.length : Int) != (x2.length : Int)) = true then (
some true)
else (
if (decide ((x8.length : Int) < 1)) = true then (
some true)
else (
some (decide ((x8.length : Int) > 8))))))) : Option Bool) >>= fun x174 =>
if x174 = true then (
some false)
else (
((iterO N (fun s => F_subset_Right_l0 N x2 s) 0) : Option (Unit ⊕ Bool)) >>= fun z => match z with
| .inr z => some z
| .inl _ =>
((F_slices_ContainsFunc_int_int_1 N x5 >>= fun x289 =>
if x289 = true then (
some true)
else (
F_slices_ContainsFunc_int_int N x8 (x2.length : Int) >>= fun x293 =>
some x293)) : Option Bool) >>= fun x285 =>
if x285 = true then (
some false)
else (
((idx x2 0 >>= fun x312 =>
if (x312 == (List.replicate 256 0)) = true then (
idx x5 0 >>= fun x319 =>
some (x319 == (-1)))
else (
some false)) : Option Bool) >>= fun x310 =>
some x310))
def F_marks_New (N : Nat) (x1 : Int) : Option (Unit ⊕ (List Int)) :=
((if (decide (x1 < 0)) = true then (
some true)
else (
some (decide (x1 > 65536)))) : Option Bool) >>= fun x16 =>
if x16 = true then (
some (.inl ()))
else (
mk 0 (w64 ((w64 ((w64 (x1 + 64)) - 1)).tdiv 64)) >>= fun x19 =>
some (.inr x19))
def F_marks_Marks_Size (N : Nat) (x3 : (List Int)) (x6 : Int) : Option Unit :=
some ()
def F_marks_Marks_at (N : Nat) (x3 : (List Int)) (x6 : Int) (x7 : Int) : Option (Int × Int × Bool) :=
((nn ((IntKind.wrap .u64 x7).tmod 64) >>= fun x32 =>
if (decide (x7 ≥ 0)) = true then (
F_marks_Marks_Size N x3 x6 >>= fun _ =>
some (w64 (x7.tdiv 64), shlI .u64 1 ((IntKind.wrap .u64 x7).tmod 64), decide (x7 < x6)))
else (
some (w64 (x7.tdiv 64), shlI .u64 1 ((IntKind.wrap .u64 x7).tmod 64), false))) : Option (Int × Int × Bool)) >>= fun (x28, x29, x30) =>
some (x28, x29, x30)
def F_marks_Marks_Put (N : Nat) (x3 : (List Int)) (x6 : Int) (x7 : Int) : Option ((List Int) × Bool) :=
F_marks_Marks_at N x3 x6 x7 >>= fun (x55, x56, x57) =>
((if (!x57) = true then (
some true)
else (
idx x3 x55 >>= fun x68 =>
some ((iand .u64 x68 x56) != 0))) : Option Bool) >>= fun x66 =>
if x66 = true then (
some (x3, false))
else (
idx x3 x55 >>= fun x76 =>
idx x3 x55 >>= fun x83 =>
setI x3 x55 (ior .u64 x76 x56) >>= fun x90 =>
some (x90, true))
def F_canon_order_1_l0 (N : Nat) (x2 : (List Int)) (x10 : Int) (x983 : (List Int)) (x987 : (List Int)) (x989 : Int) : Option (((List Int) × (List Int) × Int) ⊕ ((List Int) × (List Int))) :=
if (decide (x989 < (x2.length : Int))) = true then (
((idx x2 x989 >>= fun x1133 =>
F_marks_Marks_Put N x983 x10 x1133 >>= fun (x1143, x1144) =>
((if x1144 = true then (
app x987 ([x1133]) >>= fun x1163 =>
some x1163)
else (
some x987)) : Option (List Int)) >>= fun x1158 =>
some (x1143, x1158)) : Option ((List Int) × (List Int))) >>= fun (x1126, x1130) =>
some (.inl (x1126, x1130, w64 (x989 + 1))))
else (
some (.inr (x983, x987)))
def F_canon_order_1 (N : Nat) (x2 : (List Int)) (x7 : (List Int)) (x10 : Int) (x13 : (List Int)) : Option ((List Int) × (List Int)) :=
((iterO N (fun s => F_canon_order_1_l0 N x2 x10 s.1 s.2.1 s.2.2) (x7, x13, 0)) : Option ((List Int) × (List Int))) >>= fun (x882, x886) =>
some (x882, x886)
def F_canon_order_l0 (N : Nat) (x2 : (List (List Int))) (x435 : (List Int)) (x438 : (List Int)) (x440 : Int) : Option (((List Int) × (List Int) × Int) ⊕ (List Int)) :=
if (decide (x440 < (x435.length : Int))) = true then (
idx x435 x440 >>= fun x477 =>
idx x2 x477 >>= fun x484 =>
F_canon_order_1 N x484 x438 (x2.length : Int) x435 >>= fun (x496, x497) =>
some (.inl (x497, x496, w64 (x440 + 1))))
else (
some (.inr x435))
def F_canon_order (N : Nat) (x2 : (List (List Int))) (x5 : (List Int)) (x8 : (List Int)) : Option (List Int) :=
F_marks_New N (x2.length : Int) >>= fun z => match z with
| .inl _ => (
some ([]))
| .inr x265 => (
F_marks_Marks_Put N x265 (x2.length : Int) 0 >>= fun (x277, x278) =>
F_canon_order_1 N x8 x277 (x2.length : Int) ([0]) >>= fun (x291, x292) =>
((iterO N (fun s => F_canon_order_l0 N x2 s.1 s.2.1 s.2.2) (x292, x291, 1)) : Option (List Int)) >>= fun x398 =>
some x398)
def F_canon_Order (N : Nat) (x2 : (List (List Int))) (x5 : (List Int)) (x8 : (List Int)) : Option (List Int) :=
F_subset_Right N x2 x5 x8 >>= fun x31 =>
if (!x31) = true then (
some ([]))
else (
F_canon_order N x2 x5 x8 >>= fun x37 =>
some x37)
def F_doffernum_SameInts_l0 (N : Nat) (x2 : (List Int)) (x5 : (List Int)) (x173 : Int) : Option (Int ⊕ (Unit ⊕ Bool)) :=
if (decide (x173 < (x2.length : Int))) = true then (
idx x2 x173 >>= fun x193 =>
idx x5 x173 >>= fun x200 =>
if (x193 != x200) = true then (
some (.inr (.inr false)))
else (
some (.inl (w64 (x173 + 1)))))
else (
some (.inr (.inl ())))
def F_doffernum_SameInts (N : Nat) (x2 : (List Int)) (x5 : (List Int)) : Option Bool :=
if ((x2.length : Int) != (x5.length : Int)) = true then (
some false)
else (
((iterO N (fun s => F_doffernum_SameInts_l0 N x2 x5 s) 0) : Option (Unit ⊕ Bool)) >>= fun z => match z with
| .inr z => some z
| .inl _ =>
some true)
def F_dofferlaw20_alive_l0 (N : Nat) (x251 : (List (List Int))) (x253 : Int) : Option (((List (List Int)) × Int) ⊕ (List (List Int))) :=
if (decide (x253 < 256)) = true then (
idx x251 2 >>= fun x275 =>
idx x275 x253 >>= fun x282 =>
setI x275 x253 1 >>= fun x284 =>
setI x251 2 x284 >>= fun x285 =>
some (.inl (x285, w64 (x253 + 1))))
else (
some (.inr x251))
def F_dofferlaw20_alive (N : Nat) : Option Bool :=
mk (List.replicate 256 0) 3 >>= fun x163 =>
((iterO N (fun s => F_dofferlaw20_alive_l0 N s.1 s.2) (x163, 0)) : Option (List (List Int))) >>= fun x230 =>
F_canon_Order N x230 ([(-1), 0, (-1)]) ([2]) >>= fun x293 =>
F_doffernum_SameInts N x293 ([0, 2, 1]) >>= fun x300 =>
some x300
def F_dofferlaw17_Of_l0 (N : Nat) (x2 : (List (List Int))) (x302 : Int) (x305 : (List (List Int))) : Option ((Int × (List (List Int))) ⊕ (List (List Int))) :=
if (decide (x302 < (x2.length : Int))) = true then (
idx x2 x302 >>= fun x335 =>
app x305 ([x335]) >>= fun x347 =>
some (.inl (w64 (x302 + 1), x347)))
else (
some (.inr x305))
def F_dofferlaw17_Of (N : Nat) (x2 : (List (List Int))) (x5 : (List Int)) (x8 : (List Int)) (x10 : Int) : Option ((List (List Int)) × Bool) :=
((if (decide ((x2.length : Int) > x10)) = true then (
some true)
else (
if (decide ((x5.length : Int) > x10)) = true then (
some true)
else (
some (decide ((x8.length : Int) > 20))))) : Option Bool) >>= fun x193 =>
if x193 = true then (
some ([], false))
else (
((iterO N (fun s => F_dofferlaw17_Of_l0 N x2 s.1 s.2) (0, [])) : Option (List (List Int))) >>= fun x275 =>
some (x275, true))
def F_canon_Canon_l0 (N : Nat) (x1988 : (List Int)) (x2091 : Int) (x2093 : (List Int)) : Option ((Int × (List Int)) ⊕ (List Int)) :=
if (decide (x2091 < (x1988.length : Int))) = true then (
idx x1988 x2091 >>= fun x2121 =>
idx x2093 x2121 >>= fun x2128 =>
setI x2093 x2121 x2091 >>= fun x2135 =>
some (.inl (w64 (x2091 + 1), x2135)))
else (
some (.inr x2093))
def F_canon_Canon_l2 (N : Nat) (x2066 : (List Int)) (x3298 : (List Int)) (x3398 : (List Int)) (x3401 : Int) : Option (((List Int) × Int) ⊕ (List Int)) :=
if (decide (x3401 < 256)) = true then (
idx x3298 x3401 >>= fun x3426 =>
idx x2066 x3426 >>= fun x3427 =>
idx x3398 x3401 >>= fun x3434 =>
setI x3398 x3401 x3427 >>= fun x3437 =>
some (.inl (x3437, w64 (x3401 + 1))))
else (
some (.inr x3398))
def F_canon_Canon_l1 (N : Nat) (x2 : (List (List Int))) (x5 : (List Int)) (x1988 : (List Int)) (x2066 : (List Int)) (x3055 : (List (List Int))) (x3059 : (List Int)) (x3061 : Int) : Option (((List (List Int)) × (List Int) × Int) ⊕ ((List (List Int)) × (List Int))) :=
if (decide (x3061 < (x1988.length : Int))) = true then (
idx x1988 x3061 >>= fun x3291 =>
idx x2 x3291 >>= fun x3298 =>
((iterO N (fun s => F_canon_Canon_l2 N x2066 x3298 s.1 s.2) (x3298, 0)) : Option (List Int)) >>= fun x3373 =>
app x3055 ([x3373]) >>= fun x3444 =>
((idx x5 x3291 >>= fun x3481 =>
app x3059 ([x3481]) >>= fun x3490 =>
some x3490) : Option (List Int)) >>= fun x3478 =>
some (.inl (x3444, x3478, w64 (x3061 + 1))))
else (
some (.inr (x3055, x3059)))
def F_canon_Canon_l3 (N : Nat) (x8 : (List Int)) (x2066 : (List Int)) (x3792 : (List Int)) (x3794 : Int) : Option (((List Int) × Int) ⊕ (List Int)) :=
if (decide (x3794 < (x8.length : Int))) = true then (
idx x8 x3794 >>= fun x3867 =>
((idx x2066 x3867 >>= fun x3904 =>
app x3792 ([x3904]) >>= fun x3913 =>
some x3913) : Option (List Int)) >>= fun x3901 =>
some (.inl (x3901, w64 (x3794 + 1))))
else (
some (.inr x3792))
def F_canon_Canon (N : Nat) (x2 : (List (List Int))) (x5 : (List Int)) (x8 : (List Int)) : Option ((List (List Int)) × (List Int) × (List Int)) :=
F_canon_Order N x2 x5 x8 >>= fun x1988 =>
mk 0 (x2.length : Int) >>= fun x1991 =>
((iterO N (fun s => F_canon_Canon_l0 N x1988 s.1 s.2) (0, x1991)) : Option (List Int)) >>= fun x2066 =>
((iterO N (fun s => F_canon_Canon_l1 N x2 x5 x1988 x2066 s.1 s.2.1 s.2.2) ([], [], 0)) : Option ((List (List Int)) × (List Int))) >>= fun (x2821, x2825) =>
if ((x1988.length : Int) == 0) = true then (
some (x2821, x2825, []))
else (
((iterO N (fun s => F_canon_Canon_l3 N x8 x2066 s.1 s.2) ([], 0)) : Option (List Int)) >>= fun x3719 =>
some (x2821, x2825, x3719))
def F_dofferref17_Right_l1 (N : Nat) (x2 : (List (List Int))) (x939 : Int) (x1026 : (List Int)) (x1092 : Int) : Option (Int ⊕ (Unit ⊕ (Int ⊕ (Unit ⊕ Bool)))) :=
if (decide (x1092 < 256)) = true then (
idx x1026 x1092 >>= fun x1102 =>
((if (decide (x1102 < 0)) = true then (
some true)
else (
if (decide (x1102 ≥ (x2.length : Int))) = true then (
some true)
else (
if (x939 == 0) = true then (
some (x1102 != 0))
else (
some false)))) : Option Bool) >>= fun x1103 =>
if x1103 = true then (
some (.inr (.inr (.inr (.inr false)))))
else (
some (.inl (w64 (x1092 + 1)))))
else (
some (.inr (.inl ())))
def F_dofferref17_Right_l0 (N : Nat) (x2 : (List (List Int))) (x5 : (List Int)) (x939 : Int) : Option (Int ⊕ (Unit ⊕ Bool)) :=
if (decide (x939 < (x2.length : Int))) = true then (
idx x2 x939 >>= fun x1026 =>
((idx x5 x939 >>= fun x1052 =>
if (decide (x1052 < (-1))) = true then (
some true)
else (
idx x5 x939 >>= fun x1059 =>
some (decide (x1059 > 47)))) : Option Bool) >>= fun x1050 =>
if x1050 = true then (
some (.inr (.inr false)))
else (
((iterO N (fun s => F_dofferref17_Right_l1 N x2 x939 x1026 s) 0) : Option (Unit ⊕ (Int ⊕ (Unit ⊕ Bool)))) >>= fun z => match z with
| .inr z => some z
| .inl _ =>
some (.inl (w64 (x939 + 1)))))
else (
some (.inr (.inl ())))
def F_dofferref17_Right_l2 (N : Nat) (x2 : (List (List Int))) (x8 : (List Int)) (x1157 : Int) : Option (Int ⊕ (Unit ⊕ Bool)) :=
if (decide (x1157 < (x8.length : Int))) = true then (
idx x8 x1157 >>= fun x1173 =>
((if (decide (x1173 < 0)) = true then (
some true)
else (
some (decide (x1173 ≥ (x2.length : Int))))) : Option Bool) >>= fun x1180 =>
if x1180 = true then (
some (.inr (.inr false)))
else (
some (.inl (w64 (x1157 + 1)))))
else (
some (.inr (.inl ())))
def F_dofferref17_Right (N : Nat) (x2 : (List (List Int))) (x5 : (List Int)) (x8 : (List Int)) : Option Bool :=
((if (decide ((x2.length : Int) < 1)) = true then (
some true)
else (
if (decide ((x2.length : Int) > 200)) = true then (
some true)
else (
if ((x5.length : Int) != (x2.length : Int)) = true then (
some true)
else (
if (decide ((x8.length : Int) < 1)) = true then (
some true)
else (
some (decide ((x8.length : Int) > 8))))))) : Option Bool) >>= fun x603 =>
if x603 = true then (
some false)
else (
((iterO N (fun s => F_dofferref17_Right_l0 N x2 x5 s) 0) : Option (Unit ⊕ Bool)) >>= fun z => match z with
| .inr z => some z
| .inl _ =>
((iterO N (fun s => F_dofferref17_Right_l2 N x2 x8 s) 0) : Option (Unit ⊕ Bool)) >>= fun z => match z with
| .inr z => some z
| .inl _ =>
idx x5 0 >>= fun x1184 =>
some (x1184 == (-1)))
def F_marks_Marks_own (N : Nat) (x3 : (List Int)) (x6 : Int) : Option Unit :=
some ()
def F_math_bits_OnesCount64 (N : Nat) (x1 : Int) : Option Int :=
some (iand .i64 (IntKind.wrap .i64 (IntKind.wrap .u64 ((IntKind.wrap .u64 ((IntKind.wrap .u64 ((iand .u64 (IntKind.wrap .u64 ((shrI .u64 (IntKind.wrap .u64 ((iand .u64 (shrI .u64 (IntKind.wrap .u64 ((iand .u64 (shrI .u64 x1 1) 6148914691236517205) + (iand .u64 x1 6148914691236517205))) 2) 3689348814741910323) + (iand .u64 (IntKind.wrap .u64 ((iand .u64 (shrI .u64 x1 1) 6148914691236517205) + (iand .u64 x1 6148914691236517205))) 3689348814741910323))) 4) + (IntKind.wrap .u64 ((iand .u64 (shrI .u64 (IntKind.wrap .u64 ((iand .u64 (shrI .u64 x1 1) 6148914691236517205) + (iand .u64 x1 6148914691236517205))) 2) 3689348814741910323) + (iand .u64 (IntKind.wrap .u64 ((iand .u64 (shrI .u64 x1 1) 6148914691236517205) + (iand .u64 x1 6148914691236517205))) 3689348814741910323))))) 1085102592571150095) + (shrI .u64 (iand .u64 (IntKind.wrap .u64 ((shrI .u64 (IntKind.wrap .u64 ((iand .u64 (shrI .u64 (IntKind.wrap .u64 ((iand .u64 (shrI .u64 x1 1) 6148914691236517205) + (iand .u64 x1 6148914691236517205))) 2) 3689348814741910323) + (iand .u64 (IntKind.wrap .u64 ((iand .u64 (shrI .u64 x1 1) 6148914691236517205) + (iand .u64 x1 6148914691236517205))) 3689348814741910323))) 4) + (IntKind.wrap .u64 ((iand .u64 (shrI .u64 (IntKind.wrap .u64 ((iand .u64 (shrI .u64 x1 1) 6148914691236517205) + (iand .u64 x1 6148914691236517205))) 2) 3689348814741910323) + (iand .u64 (IntKind.wrap .u64 ((iand .u64 (shrI .u64 x1 1) 6148914691236517205) + (iand .u64 x1 6148914691236517205))) 3689348814741910323))))) 1085102592571150095) 8))) + (shrI .u64 (IntKind.wrap .u64 ((iand .u64 (IntKind.wrap .u64 ((shrI .u64 (IntKind.wrap .u64 ((iand .u64 (shrI .u64 (IntKind.wrap .u64 ((iand .u64 (shrI .u64 x1 1) 6148914691236517205) + (iand .u64 x1 6148914691236517205))) 2) 3689348814741910323) + (iand .u64 (IntKind.wrap .u64 ((iand .u64 (shrI .u64 x1 1) 6148914691236517205) + (iand .u64 x1 6148914691236517205))) 3689348814741910323))) 4) + (IntKind.wrap .u64 ((iand .u64 (shrI .u64 (IntKind.wrap .u64 ((iand .u64 (shrI .u64 x1 1) 6148914691236517205) + (iand .u64 x1 6148914691236517205))) 2) 3689348814741910323) + (iand .u64 (IntKind.wrap .u64 ((iand .u64 (shrI .u64 x1 1) 6148914691236517205) + (iand .u64 x1 6148914691236517205))) 3689348814741910323))))) 1085102592571150095) + (shrI .u64 (iand .u64 (IntKind.wrap .u64 ((shrI .u64 (IntKind.wrap .u64 ((iand .u64 (shrI .u64 (IntKind.wrap .u64 ((iand .u64 (shrI .u64 x1 1) 6148914691236517205) + (iand .u64 x1 6148914691236517205))) 2) 3689348814741910323) + (iand .u64 (IntKind.wrap .u64 ((iand .u64 (shrI .u64 x1 1) 6148914691236517205) + (iand .u64 x1 6148914691236517205))) 3689348814741910323))) 4) + (IntKind.wrap .u64 ((iand .u64 (shrI .u64 (IntKind.wrap .u64 ((iand .u64 (shrI .u64 x1 1) 6148914691236517205) + (iand .u64 x1 6148914691236517205))) 2) 3689348814741910323) + (iand .u64 (IntKind.wrap .u64 ((iand .u64 (shrI .u64 x1 1) 6148914691236517205) + (iand .u64 x1 6148914691236517205))) 3689348814741910323))))) 1085102592571150095) 8))) 16))) + (shrI .u64 (IntKind.wrap .u64 ((IntKind.wrap .u64 ((iand .u64 (IntKind.wrap .u64 ((shrI .u64 (IntKind.wrap .u64 ((iand .u64 (shrI .u64 (IntKind.wrap .u64 ((iand .u64 (shrI .u64 x1 1) 6148914691236517205) + (iand .u64 x1 6148914691236517205))) 2) 3689348814741910323) + (iand .u64 (IntKind.wrap .u64 ((iand .u64 (shrI .u64 x1 1) 6148914691236517205) + (iand .u64 x1 6148914691236517205))) 3689348814741910323))) 4) + (IntKind.wrap .u64 ((iand .u64 (shrI .u64 (IntKind.wrap .u64 ((iand .u64 (shrI .u64 x1 1) 6148914691236517205) + (iand .u64 x1 6148914691236517205))) 2) 3689348814741910323) + (iand .u64 (IntKind.wrap .u64 ((iand .u64 (shrI .u64 x1 1) 6148914691236517205) + (iand .u64 x1 6148914691236517205))) 3689348814741910323))))) 1085102592571150095) + (shrI .u64 (iand .u64 (IntKind.wrap .u64 ((shrI .u64 (IntKind.wrap .u64 ((iand .u64 (shrI .u64 (IntKind.wrap .u64 ((iand .u64 (shrI .u64 x1 1) 6148914691236517205) + (iand .u64 x1 6148914691236517205))) 2) 3689348814741910323) + (iand .u64 (IntKind.wrap .u64 ((iand .u64 (shrI .u64 x1 1) 6148914691236517205) + (iand .u64 x1 6148914691236517205))) 3689348814741910323))) 4) + (IntKind.wrap .u64 ((iand .u64 (shrI .u64 (IntKind.wrap .u64 ((iand .u64 (shrI .u64 x1 1) 6148914691236517205) + (iand .u64 x1 6148914691236517205))) 2) 3689348814741910323) + (iand .u64 (IntKind.wrap .u64 ((iand .u64 (shrI .u64 x1 1) 6148914691236517205) + (iand .u64 x1 6148914691236517205))) 3689348814741910323))))) 1085102592571150095) 8))) + (shrI .u64 (IntKind.wrap .u64 ((iand .u64 (IntKind.wrap .u64 ((shrI .u64 (IntKind.wrap .u64 ((iand .u64 (shrI .u64 (IntKind.wrap .u64 ((iand .u64 (shrI .u64 x1 1) 6148914691236517205) + (iand .u64 x1 6148914691236517205))) 2) 3689348814741910323) + (iand .u64 (IntKind.wrap .u64 ((iand .u64 (shrI .u64 x1 1) 6148914691236517205) + (iand .u64 x1 6148914691236517205))) 3689348814741910323))) 4) + (IntKind.wrap .u64 ((iand .u64 (shrI .u64 (IntKind.wrap .u64 ((iand .u64 (shrI .u64 x1 1) 6148914691236517205) + (iand .u64 x1 6148914691236517205))) 2) 3689348814741910323) + (iand .u64 (IntKind.wrap .u64 ((iand .u64 (shrI .u64 x1 1) 6148914691236517205) + (iand .u64 x1 6148914691236517205))) 3689348814741910323))))) 1085102592571150095) + (shrI .u64 (iand .u64 (IntKind.wrap .u64 ((shrI .u64 (IntKind.wrap .u64 ((iand .u64 (shrI .u64 (IntKind.wrap .u64 ((iand .u64 (shrI .u64 x1 1) 6148914691236517205) + (iand .u64 x1 6148914691236517205))) 2) 3689348814741910323) + (iand .u64 (IntKind.wrap .u64 ((iand .u64 (shrI .u64 x1 1) 6148914691236517205) + (iand .u64 x1 6148914691236517205))) 3689348814741910323))) 4) + (IntKind.wrap .u64 ((iand .u64 (shrI .u64 (IntKind.wrap .u64 ((iand .u64 (shrI .u64 x1 1) 6148914691236517205) + (iand .u64 x1 6148914691236517205))) 2) 3689348814741910323) + (iand .u64 (IntKind.wrap .u64 ((iand .u64 (shrI .u64 x1 1) 6148914691236517205) + (iand .u64 x1 6148914691236517205))) 3689348814741910323))))) 1085102592571150095) 8))) 16))) 32)))) 127)
def F_marks_Marks_Len_l0 (N : Nat) (x3 : (List Int)) (x161 : Int) (x162 : Int) : Option ((Int × Int) ⊕ Int) :=
if (decide (x162 < (x3.length : Int))) = true then (
idx x3 x162 >>= fun x180 =>
F_math_bits_OnesCount64 N x180 >>= fun x189 =>
some (.inl (w64 (x161 + x189), w64 (x162 + 1))))
else (
some (.inr x161))
def F_marks_Marks_Len (N : Nat) (x3 : (List Int)) (x6 : Int) : Option Int :=
F_marks_Marks_own N x3 x6 >>= fun _ =>
((iterO N (fun s => F_marks_Marks_Len_l0 N x3 s.1 s.2) (0, 0)) : Option Int) >>= fun x146 =>
some x146
def F_canon_Edges_l1 (N : Nat) (x1245 : (List Int)) (x1319 : Int) (x1321 : (List Int)) : Option ((Int × (List Int)) ⊕ (List Int)) :=
if (decide (x1319 < 256)) = true then (
idx x1245 x1319 >>= fun x1339 =>
F_marks_Marks_Put N x1321 200 x1339 >>= fun (x1343, x1344) =>
some (.inl (w64 (x1319 + 1), x1343)))
else (
some (.inr x1321))
def F_canon_Edges_l0 (N : Nat) (x2 : (List (List Int))) (x1130 : Int) (x1131 : Int) : Option ((Int × Int) ⊕ (Int ⊕ Int)) :=
if (decide (x1130 < (x2.length : Int))) = true then (
idx x2 x1130 >>= fun x1245 =>
F_marks_New N 200 >>= fun z => match z with
| .inl _ => (
some (.inr (.inr 0)))
| .inr x1260 => (
((iterO N (fun s => F_canon_Edges_l1 N x1245 s.1 s.2) (0, x1260)) : Option (List Int)) >>= fun x1304 =>
F_marks_Marks_Len N x1304 200 >>= fun x1350 =>
some (.inl (w64 (x1130 + 1), w64 (x1131 + x1350)))))
else (
some (.inr (.inl x1131)))
def F_canon_Edges (N : Nat) (x2 : (List (List Int))) (x5 : (List Int)) (x8 : (List Int)) : Option Int :=
F_subset_Right N x2 x5 x8 >>= fun x686 =>
if (!x686) = true then (
some 0)
else (
((iterO N (fun s => F_canon_Edges_l0 N x2 s.1 s.2) (0, 0)) : Option (Int ⊕ Int)) >>= fun z => match z with
| .inr z => some z
| .inl x1019 =>
some x1019)
def F_cmp_isNaN_int (N : Nat) (x1 : Int) : Option Unit :=
some ()
def F_cmp_Less_int (N : Nat) (x1 : Int) (x2 : Int) : Option Bool :=
((F_cmp_isNaN_int N x1 >>= fun _ =>
if (x1 != x1) = true then (
F_cmp_isNaN_int N x2 >>= fun _ =>
if (!(x2 != x2)) = true then (
some true)
else (
some (decide (x1 < x2))))
else (
some (decide (x1 < x2)))) : Option Bool) >>= fun x25 =>
some x25
def F_slices_IsSorted_int_int_l0 (N : Nat) (x2 : (List Int)) (x172 : Int) : Option (Int ⊕ (Unit ⊕ Bool)) :=
if (decide (x172 > 0)) = true then (
idx x2 x172 >>= fun x196 =>
idx x2 (w64 (x172 - 1)) >>= fun x203 =>
F_cmp_Less_int N x196 x203 >>= fun x212 =>
if x212 = true then (
some (.inr (.inr false)))
else (
some (.inl (w64 (x172 - 1)))))
else (
some (.inr (.inl ())))
def F_slices_IsSorted_int_int (N : Nat) (x2 : (List Int)) : Option Bool :=
((iterO N (fun s => F_slices_IsSorted_int_int_l0 N x2 s) (w64 ((x2.length : Int) - 1))) : Option (Unit ⊕ Bool)) >>= fun z => match z with
| .inr z => some z
| .inl _ =>
some true
def F_canon_IsCanon (N : Nat) (x2 : (List (List Int))) (x5 : (List Int)) (x8 : (List Int)) : Option Bool :=
F_canon_Order N x2 x5 x8 >>= fun x37 =>
((if (decide ((x37.length : Int) > 0)) = true then (
if ((x37.length : Int) == (x2.length : Int)) = true then (
F_slices_IsSorted_int_int N x37 >>= fun x48 =>
some x48)
else (
some false))
else (
some false)) : Option Bool) >>= fun x44 =>
some x44
def F_doffernum_In_l0 (N : Nat) (x2 : (List Int)) (x4 : Int) (x101 : Int) : Option (Int ⊕ (Unit ⊕ Bool)) :=
if (decide (x101 < (x2.length : Int))) = true then (
idx x2 x101 >>= fun x114 =>
if (x114 == x4) = true then (
some (.inr (.inr true)))
else (
some (.inl (w64 (x101 + 1)))))
else (
some (.inr (.inl ())))
def F_doffernum_In (N : Nat) (x2 : (List Int)) (x4 : Int) : Option Bool :=
((iterO N (fun s => F_doffernum_In_l0 N x2 x4 s) 0) : Option (Unit ⊕ Bool)) >>= fun z => match z with
| .inr z => some z
| .inl _ =>
some false
def F_dofferref20_Order_l0 (N : Nat) (x8 : (List Int)) (x4581 : Int) (x4584 : (List Int)) : Option ((Int × (List Int)) ⊕ (List Int)) :=
if (decide (x4581 < (x8.length : Int))) = true then (
((idx x8 x4581 >>= fun x4705 =>
F_doffernum_In N x4584 x4705 >>= fun x4714 =>
((if (!x4714) = true then (
app x4584 ([x4705]) >>= fun x4731 =>
some x4731)
else (
some x4584)) : Option (List Int)) >>= fun x4726 =>
some x4726) : Option (List Int)) >>= fun x4702 =>
some (.inl (w64 (x4581 + 1), x4702)))
else (
some (.inr x4584))
def F_dofferref20_Order_l2 (N : Nat) (x2 : (List (List Int))) (x7253 : Int) (x8298 : (List Int)) (x8300 : Int) : Option (((List Int) × Int) ⊕ (List Int)) :=
if (decide (x8300 < 256)) = true then (
((idx x8298 x7253 >>= fun x8456 =>
idx x2 x8456 >>= fun x8463 =>
idx x8463 x8300 >>= fun x8470 =>
F_doffernum_In N x8298 x8470 >>= fun x8477 =>
((if (!x8477) = true then (
app x8298 ([x8470]) >>= fun x8494 =>
some x8494)
else (
some x8298)) : Option (List Int)) >>= fun x8489 =>
some x8489) : Option (List Int)) >>= fun x8453 =>
some (.inl (x8453, w64 (x8300 + 1))))
else (
some (.inr x8298))
def F_dofferref20_Order_l1 (N : Nat) (x2 : (List (List Int))) (x7251 : (List Int)) (x7253 : Int) : Option (((List Int) × Int) ⊕ (List Int)) :=
if (decide (x7253 < (x7251.length : Int))) = true then (
((iterO N (fun s => F_dofferref20_Order_l2 N x2 x7253 s.1 s.2) (x7251, 0)) : Option (List Int)) >>= fun x8192 =>
some (.inl (x8192, w64 (x7253 + 1))))
else (
some (.inr x7251))
def F_dofferref20_Order (N : Nat) (x2 : (List (List Int))) (x5 : (List Int)) (x8 : (List Int)) : Option (List Int) :=
((iterO N (fun s => F_dofferref20_Order_l0 N x8 s.1 s.2) (0, [0])) : Option (List Int)) >>= fun x4501 =>
((iterO N (fun s => F_dofferref20_Order_l1 N x2 s.1 s.2) (x4501, 1)) : Option (List Int)) >>= fun x6621 =>
some x6621
def F_dofferref20_place_l0 (N : Nat) (x2 : (List Int)) (x4 : Int) (x101 : Int) : Option (Int ⊕ (Unit ⊕ Int)) :=
if (decide (x101 < (x2.length : Int))) = true then (
idx x2 x101 >>= fun x114 =>
if (x114 == x4) = true then (
some (.inr (.inr x101)))
else (
some (.inl (w64 (x101 + 1)))))
else (
some (.inr (.inl ())))
def F_dofferref20_place (N : Nat) (x2 : (List Int)) (x4 : Int) : Option Int :=
((iterO N (fun s => F_dofferref20_place_l0 N x2 x4 s) 0) : Option (Unit ⊕ Int)) >>= fun z => match z with
| .inr z => some z
| .inl _ =>
some 0
def F_dofferref20_Canon_l1 (N : Nat) (x2 : (List (List Int))) (x2204 : (List Int)) (x3566 : Int) (x3698 : (List Int)) (x3701 : Int) : Option (((List Int) × Int) ⊕ (List Int)) :=
if (decide (x3701 < 256)) = true then (
idx x2 x3566 >>= fun x3734 =>
idx x3734 x3701 >>= fun x3741 =>
F_dofferref20_place N x2204 x3741 >>= fun x3748 =>
idx x3698 x3701 >>= fun x3750 =>
setI x3698 x3701 x3748 >>= fun x3753 =>
some (.inl (x3753, w64 (x3701 + 1))))
else (
some (.inr x3698))
def F_dofferref20_Canon_l0 (N : Nat) (x2 : (List (List Int))) (x5 : (List Int)) (x2204 : (List Int)) (x3287 : Int) (x3290 : (List (List Int))) (x3294 : (List Int)) : Option ((Int × (List (List Int)) × (List Int)) ⊕ ((List (List Int)) × (List Int))) :=
if (decide (x3287 < (x2204.length : Int))) = true then (
idx x2204 x3287 >>= fun x3566 =>
((iterO N (fun s => F_dofferref20_Canon_l1 N x2 x2204 x3566 s.1 s.2) ((List.replicate 256 0), 0)) : Option (List Int)) >>= fun x3665 =>
app x3290 ([x3665]) >>= fun x3760 =>
((idx x5 x3566 >>= fun x3797 =>
app x3294 ([x3797]) >>= fun x3806 =>
some x3806) : Option (List Int)) >>= fun x3794 =>
some (.inl (w64 (x3287 + 1), x3760, x3794)))
else (
some (.inr (x3290, x3294)))
def F_dofferref20_Canon_l2 (N : Nat) (x8 : (List Int)) (x2204 : (List Int)) (x4187 : (List Int)) (x4189 : Int) : Option (((List Int) × Int) ⊕ (List Int)) :=
if (decide (x4189 < (x8.length : Int))) = true then (
idx x8 x4189 >>= fun x4282 =>
((F_dofferref20_place N x2204 x4282 >>= fun x4331 =>
app x4187 ([x4331]) >>= fun x4335 =>
some x4335) : Option (List Int)) >>= fun x4326 =>
some (.inl (x4326, w64 (x4189 + 1))))
else (
some (.inr x4187))
def F_dofferref20_Canon (N : Nat) (x2 : (List (List Int))) (x5 : (List Int)) (x8 : (List Int)) : Option ((List (List Int)) × (List Int) × (List Int)) :=
F_dofferref20_Order N x2 x5 x8 >>= fun x2204 =>
((iterO N (fun s => F_dofferref20_Canon_l0 N x2 x5 x2204 s.1 s.2.1 s.2.2) (0, [], [])) : Option ((List (List Int)) × (List Int))) >>= fun (x3014, x3018) =>
((iterO N (fun s => F_dofferref20_Canon_l2 N x8 x2204 s.1 s.2) ([], 0)) : Option (List Int)) >>= fun x4094 =>
some (x3014, x3018, x4094)
def F_dofferref17_Same_l0 (N : Nat) (x2 : (List (List Int))) (x11 : (List (List Int))) (x231 : Int) : Option (Int ⊕ (Unit ⊕ Bool)) :=
if (decide (x231 < (x2.length : Int))) = true then (
idx x2 x231 >>= fun x251 =>
idx x11 x231 >>= fun x258 =>
if (x251 != x258) = true then (
some (.inr (.inr false)))
else (
some (.inl (w64 (x231 + 1)))))
else (
some (.inr (.inl ())))
def F_dofferref17_Same (N : Nat) (x2 : (List (List Int))) (x5 : (List Int)) (x8 : (List Int)) (x11 : (List (List Int))) (x14 : (List Int)) (x17 : (List Int)) : Option Bool :=
((if ((x2.length : Int) != (x11.length : Int)) = true then (
some true)
else (
F_doffernum_SameInts N x5 x14 >>= fun x159 =>
if (!x159) = true then (
some true)
else (
F_doffernum_SameInts N x8 x17 >>= fun x163 =>
some (!x163)))) : Option Bool) >>= fun x155 =>
if x155 = true then (
some false)
else (
((iterO N (fun s => F_dofferref17_Same_l0 N x2 x11 s) 0) : Option (Unit ⊕ Bool)) >>= fun z => match z with
| .inr z => some z
| .inl _ =>
some true)
def F_dofferref20_Edges_l1 (N : Nat) (x4636 : (List Int)) (x4917 : Int) (x4920 : (List Int)) : Option ((Int × (List Int)) ⊕ (List Int)) :=
if (decide (x4917 < 256)) = true then (
((idx x4636 x4917 >>= fun x5023 =>
F_doffernum_In N x4920 x5023 >>= fun x5026 =>
((if (!x5026) = true then (
app x4920 ([x5023]) >>= fun x5043 =>
some x5043)
else (
some x4920)) : Option (List Int)) >>= fun x5038 =>
some x5038) : Option (List Int)) >>= fun x5020 =>
some (.inl (w64 (x4917 + 1), x5020)))
else (
some (.inr x4920))
def F_dofferref20_Edges_l0 (N : Nat) (x2 : (List (List Int))) (x4212 : Int) (x4213 : Int) : Option ((Int × Int) ⊕ Int) :=
if (decide (x4212 < (x2.length : Int))) = true then (
idx x2 x4212 >>= fun x4636 =>
((iterO N (fun s => F_dofferref20_Edges_l1 N x4636 s.1 s.2) (0, [])) : Option (List Int)) >>= fun x4849 =>
some (.inl (w64 (x4212 + 1), w64 (x4213 + (x4849.length : Int)))))
else (
some (.inr x4213))
def F_dofferref20_Edges (N : Nat) (x2 : (List (List Int))) (x5 : (List Int)) (x8 : (List Int)) : Option Int :=
((iterO N (fun s => F_dofferref20_Edges_l0 N x2 s.1 s.2) (0, 0)) : Option Int) >>= fun x3792 =>
some x3792
def F_dofferlaw20_CanonTells (N : Nat) (x2 : (List (List Int))) (x5 : (List Int)) (x8 : (List Int)) : Option Bool :=
F_dofferlaw20_alive N >>= fun x219 =>
if (!x219) = true then (
some false)
else (
F_dofferlaw17_Of N x2 x5 x8 30 >>= fun (x225, x226) =>
if (!x226) = true then (
some true)
else (
F_canon_Canon N x2 x5 x8 >>= fun (x240, x241, x242) =>
F_dofferref17_Right N x225 x5 x8 >>= fun x252 =>
if (!x252) = true then (
((F_canon_Order N x2 x5 x8 >>= fun x283 =>
F_canon_Edges N x2 x5 x8 >>= fun x288 =>
if ((w64 ((w64 ((x283.length : Int) + (x240.length : Int))) + x288)) == 0) = true then (
F_canon_IsCanon N x2 x5 x8 >>= fun x292 =>
some (!x292))
else (
some false)) : Option Bool) >>= fun x277 =>
some x277)
else (
F_dofferref20_Canon N x225 x5 x8 >>= fun (x311, x312, x313) =>
F_dofferlaw17_Of N x240 x241 x242 30 >>= fun (x325, x326) =>
((F_canon_Order N x2 x5 x8 >>= fun x380 =>
F_dofferref20_Order N x225 x5 x8 >>= fun x387 =>
F_doffernum_SameInts N x380 x387 >>= fun x392 =>
if x392 = true then (
F_dofferref17_Same N x325 x241 x242 x311 x312 x313 >>= fun x396 =>
if x396 = true then (
F_canon_IsCanon N x2 x5 x8 >>= fun x400 =>
F_dofferref17_Same N x311 x312 x313 x225 x5 x8 >>= fun x404 =>
if (x400 == x404) = true then (
F_canon_IsCanon N x240 x241 x242 >>= fun x408 =>
if x408 = true then (
F_canon_Edges N x2 x5 x8 >>= fun x412 =>
F_dofferref20_Edges N x225 x5 x8 >>= fun x416 =>
some (x412 == x416))
else (
some false))
else (
some false))
else (
some false))
else (
some false)) : Option Bool) >>= fun x374 =>
some x374)))
end Go.Proofs.YteiaphkejkgfkaaDoor
