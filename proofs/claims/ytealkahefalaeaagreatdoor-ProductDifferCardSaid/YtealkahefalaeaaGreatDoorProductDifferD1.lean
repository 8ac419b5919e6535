/-
  The pure functions, printed by my program: what each function of the code computes.
-/
import Derived.Test.YtealkahefalaeaaGreatDoorProductDifferE3
namespace Go.Proofs.YtealkahefalaeaaGreatDoor
open Go Go.Eng
set_option maxRecDepth 100000
def md1r : List (List Int) := [List.replicate 256 0, (List.replicate 256 0).set 98 (2 : Int), List.replicate 256 0]
def md1l : List Int := [-1, -1, 0]
def md1m : List Int := [1]
def md0r : List (List Int) := [List.replicate 256 0, (List.replicate 256 0).set 97 (2 : Int), List.replicate 256 0]
def md0l : List Int := [-1, -1, 0]
def md0m : List Int := [1]
def tab_math_bits_deBruijn64tab : List Int := [0, 1, 56, 2, 57, 49, 28, 3, 61, 58, 42, 50, 38, 29, 17, 4, 62, 47, 59, 36, 45, 43, 51, 22, 53, 39, 33, 30, 24, 18, 12, 5, 63, 55, 48, 27, 60, 41, 37, 16, 46, 35, 44, 21, 52, 32, 23, 11, 54, 26, 40, 15, 34, 20, 31, 10, 25, 14, 19, 9, 13, 8, 7, 6]
def errIds : List Nat := [0, 1, 2, 3, 4, 5, 6, 7, 8, 12, 14]
def F_subset_Right_1 (_N : Nat)  (x1 : Int) (x3 : Int) : Option Bool :=
((if (decide (x1 < 0)) = true then (
some true)
else (
some (decide (x1 ≥ x3)))) : Option Bool) >>= fun x8 =>
some x8
def F_slices_IndexFunc_int_int_l0 (N : Nat) (x2 : (List Int)) (x5 : Int) (x142 : Int) : Option (Int ⊕ (Unit ⊕ Int)) :=
if (decide (x142 < (x2.length : Int))) = true then (
idx x2 x142 >>= fun x159 =>
F_subset_Right_1 N x159 x5 >>= fun x168 =>
if x168 = true then (
some (.inr (.inr x142)))
else (
some (.inl (w64 (x142 + 1)))))
else (
some (.inr (.inl ())))
def F_slices_IndexFunc_int_int (N : Nat)  (x2 : (List Int)) (x5 : Int) : Option Int :=
((iterO N (fun s => F_slices_IndexFunc_int_int_l0 N x2 x5 s) 0) : Option (Unit ⊕ Int)) >>= fun z => match z with
| .inr z => some z
| .inl _ =>
some (-1)
def F_slices_ContainsFunc_int_int (N : Nat)  (x2 : (List Int)) (x5 : Int) : Option Bool :=
F_slices_IndexFunc_int_int N x2 x5 >>= fun x13 =>
some (decide (x13 ≥ 0))
def F_subset_Right_2 (_N : Nat)  (x1 : Int) : Option Bool :=
((if (decide (x1 < (-1))) = true then (
some true)
else (
some (decide (x1 ≥ 48)))) : Option Bool) >>= fun x6 =>
some x6
def F_slices_IndexFunc_int_int_1_l0 (N : Nat) (x2 : (List Int)) (x140 : Int) : Option (Int ⊕ (Unit ⊕ Int)) :=
if (decide (x140 < (x2.length : Int))) = true then (
idx x2 x140 >>= fun x157 =>
F_subset_Right_2 N x157 >>= fun x166 =>
if x166 = true then (
some (.inr (.inr x140)))
else (
some (.inl (w64 (x140 + 1)))))
else (
some (.inr (.inl ())))
def F_slices_IndexFunc_int_int_1 (N : Nat)  (x2 : (List Int)) : Option Int :=
((iterO N (fun s => F_slices_IndexFunc_int_int_1_l0 N x2 s) 0) : Option (Unit ⊕ Int)) >>= fun z => match z with
| .inr z => some z
| .inl _ =>
some (-1)
def F_slices_ContainsFunc_int_int_1 (N : Nat)  (x2 : (List Int)) : Option Bool :=
F_slices_IndexFunc_int_int_1 N x2 >>= fun x11 =>
some (decide (x11 ≥ 0))
def F_subset_Right_l0 (N : Nat) (x2 : (List (List Int))) (x242 : Int) : Option (Int ⊕ (Unit ⊕ Bool)) :=
if (decide (x242 < (x2.length : Int))) = true then (
idx x2 x242 >>= fun x262 =>
F_slices_ContainsFunc_int_int N x262 (x2.length : Int) >>= fun x274 =>
if x274 = true then (
some (.inr (.inr false)))
else (
some (.inl (w64 (x242 + 1)))))
else (
some (.inr (.inl ())))
def F_subset_Right (N : Nat)  (x2 : (List (List Int))) (x5 : (List Int)) (x8 : (List Int)) : Option Bool :=
((if (decide ((x2.length : Int) < 1)) = true then (
some true)
else (
if (decide ((x2.length : Int) > 200)) = true then (
some true)
else (
if ((x5.length : Int) != (x2.length : Int)) = true then (
some true)
else (
if (decide ((x8.length : Int) < 1)) = true then (
some true)
else (
some (decide ((x8.length : Int) > 8))))))) : Option Bool) >>= fun x174 =>
if x174 = true then (
some false)
else (
((iterO N (fun s => F_subset_Right_l0 N x2 s) 0) : Option (Unit ⊕ Bool)) >>= fun z => match z with
| .inr z => some z
| .inl _ =>
((F_slices_ContainsFunc_int_int_1 N x5 >>= fun x289 =>
if x289 = true then (
some true)
else (
F_slices_ContainsFunc_int_int N x8 (x2.length : Int) >>= fun x293 =>
some x293)) : Option Bool) >>= fun x285 =>
if x285 = true then (
some false)
else (
((idx x2 0 >>= fun x312 =>
if (x312 == (List.replicate 256 0)) = true then (
idx x5 0 >>= fun x319 =>
some (x319 == (-1)))
else (
some false)) : Option Bool) >>= fun x310 =>
some x310))
def F_product_two_right (N : Nat)  (x2 : (List (List Int))) (x5 : (List Int)) (x8 : (List Int)) (x11 : (List (List Int))) (x14 : (List Int)) (x17 : (List Int)) : Option Bool :=
((F_subset_Right N x2 x5 x8 >>= fun x55 =>
if x55 = true then (
F_subset_Right N x11 x14 x17 >>= fun x59 =>
some x59)
else (
some false)) : Option Bool) >>= fun x51 =>
some x51
def F_product_entry (_N : Nat)  (_x2 : (List (List Int))) (_x5 : (List Int)) (x8 : (List Int)) (x10 : Int) : Option Int :=
((if (decide (x10 < 0)) = true then (
some true)
else (
some (decide (x10 ≥ (x8.length : Int))))) : Option Bool) >>= fun x26 =>
if x26 = true then (
some 0)
else (
idx x8 x10 >>= fun x29 =>
some x29)
def F_product_two_begin (N : Nat)  (x2 : (List (List Int))) (x5 : (List Int)) (x8 : (List Int)) (x11 : (List (List Int))) (x14 : (List Int)) (x17 : (List Int)) (x19 : Int) : Option (Int × Int) :=
((F_product_entry N x2 x5 x8 x19 >>= fun x66 =>
F_product_entry N x11 x14 x17 x19 >>= fun x70 =>
some (x66, x70)) : Option (Int × Int)) >>= fun (x61, x62) =>
some (x61, x62)
def F_product_two_rules (_N : Nat)  (_x2 : (List (List Int))) (x5 : (List Int)) (_x8 : (List Int)) (_x11 : (List (List Int))) (x14 : (List Int)) (_x17 : (List Int)) (x19 : Int) (x20 : Int) : Option (Int × Int) :=
idx x5 x19 >>= fun x45 =>
idx x14 x20 >>= fun x52 =>
some (x45, x52)
def F_product_Differ_1 (_N : Nat)  (_x1 : Int) (_x2 : Int) : Option Unit :=
some ()
def F_product_two_next (_N : Nat)  (x2 : (List (List Int))) (_x5 : (List Int)) (_x8 : (List Int)) (x11 : (List (List Int))) (_x14 : (List Int)) (_x17 : (List Int)) (x19 : Int) (x20 : Int) (x21 : Int) : Option (Int × Int) :=
((idx x2 x19 >>= fun x118 =>
idx x118 x21 >>= fun x125 =>
idx x11 x20 >>= fun x130 =>
idx x130 x21 >>= fun x137 =>
some (x125, x137)) : Option (Int × Int)) >>= fun (x115, x116) =>
some (x115, x116)
def F_clone_139 (_N : Nat) (x : (List Int)) : Option (List Int) := app [] x
def F_product_two_find_l1 (N : Nat) (x2 : (List (List Int))) (x5 : (List Int)) (x8 : (List Int)) (x11 : (List (List Int))) (x14 : (List Int)) (x17 : (List Int)) (x35753 : ((Int × Int) × (List Int))) (x37918 : (List ((Int × Int) × (List Int)))) (x37920 : Int) (x37921 : (List ((Int × Int) × Int))) : Option (((List ((Int × Int) × (List Int))) × Int × (List ((Int × Int) × Int))) ⊕ ((List ((Int × Int) × (List Int))) × (List ((Int × Int) × Int)))) :=
if (decide (x37920 < 256)) = true then (
((F_product_two_next N x2 x5 x8 x11 x14 x17 x35753.1.1 x35753.1.2 x37920 >>= fun (x38723, x38724) =>
((if (((mget x37921 (x38723, x38724)).getD 0) == 0) = true then (
((some ()) : Option Unit) >>= fun _ =>
((F_clone_139 N x35753.2 >>= fun x38929 =>
app x38929 ([IntKind.wrap .u8 x37920]) >>= fun x38934 =>
app x37918 ([((x38723, x38724), x38934)]) >>= fun x38944 =>
some x38944) : Option (List ((Int × Int) × (List Int)))) >>= fun x38922 =>
some (x38922, (mset (mset x37921 (x38723, x38724) ((mget x37921 (x38723, x38724)).getD 0)) (x38723, x38724) (w64 (((mget x37921 (x38723, x38724)).getD 0) + 1)))))
else (
some (x37918, x37921))) : Option ((List ((Int × Int) × (List Int))) × (List ((Int × Int) × Int)))) >>= fun (x38852, x38854) =>
some (x38852, x38854)) : Option ((List ((Int × Int) × (List Int))) × (List ((Int × Int) × Int)))) >>= fun (x38717, x38719) =>
some (.inl (x38717, w64 (x37920 + 1), x38719)))
else (
some (.inr (x37918, x37921)))
def F_product_two_find_l0 (N : Nat) (x2 : (List (List Int))) (x5 : (List Int)) (x8 : (List Int)) (x11 : (List (List Int))) (x14 : (List Int)) (x17 : (List Int)) (x32503 : (List ((Int × Int) × (List Int)))) (x32505 : (List ((Int × Int) × Int))) : Option (((List ((Int × Int) × (List Int))) × (List ((Int × Int) × Int))) ⊕ (Unit ⊕ ((Int × Int × (List Int)) ⊕ Unit))) :=
if (decide ((x32503.length : Int) > 0)) = true then (
idx x32503 0 >>= fun x35753 =>
F_product_two_rules N x2 x5 x8 x11 x14 x17 x35753.1.1 x35753.1.2 >>= fun (x35778, x35779) =>
F_product_Differ_1 N x35778 x35779 >>= fun _ =>
if (x35778 != x35779) = true then (
some (.inr (.inr (.inl (x35753.1.1, x35753.1.2, x35753.2)))))
else (
((iterO N (fun s => F_product_two_find_l1 N x2 x5 x8 x11 x14 x17 x35753 s.1 s.2.1 s.2.2) (x32503, 0, x32505)) : Option ((List ((Int × Int) × (List Int))) × (List ((Int × Int) × Int)))) >>= fun (x37382, x37384) =>
slc x37382 1 (x37382.length : Int) >>= fun x38983 =>
some (.inl (x38983, x37384))))
else (
some (.inr (.inl ())))
def F_product_two_find (N : Nat)  (x2 : (List (List Int))) (x5 : (List Int)) (x8 : (List Int)) (x11 : (List (List Int))) (x14 : (List Int)) (x17 : (List Int)) (x19 : Int) : Option ((Int × Int × (List Int)) ⊕ Unit) :=
F_product_two_begin N x2 x5 x8 x11 x14 x17 x19 >>= fun (x19516, x19517) =>
((iterO N (fun s => F_product_two_find_l0 N x2 x5 x8 x11 x14 x17 s.1 s.2) ([((x19516, x19517), [])], (mset ([] : List ((Int × Int) × Int)) (x19516, x19517) 1))) : Option (Unit ⊕ ((Int × Int × (List Int)) ⊕ Unit))) >>= fun z => match z with
| .inr z => some z
| .inl _ =>
some (.inr ())
def F_product_Differ_l0 (N : Nat) (x2 : (List (List Int))) (x5 : (List Int)) (x8 : (List Int)) (x11 : (List (List Int))) (x14 : (List Int)) (x17 : (List Int)) (x303 : Int) : Option (Int ⊕ (Unit ⊕ (Unit ⊕ (Int × (List Int) × Int × Int)))) :=
if (decide (x303 < (imax (x8.length : Int) (x17.length : Int)))) = true then (
F_product_two_find N x2 x5 x8 x11 x14 x17 x303 >>= fun z => match z with
| .inl (x335, x336, x337) => (
F_product_two_rules N x2 x5 x8 x11 x14 x17 x335 x336 >>= fun (x347, x348) =>
some (.inr (.inr (.inr (x303, x337, x347, x348)))))
| .inr _ => (
some (.inl (w64 (x303 + 1)))))
else (
some (.inr (.inl ())))
def F_product_Differ (N : Nat)  (x2 : (List (List Int))) (x5 : (List Int)) (x8 : (List Int)) (x11 : (List (List Int))) (x14 : (List Int)) (x17 : (List Int)) : Option (Unit ⊕ (Int × (List Int) × Int × Int)) :=
F_product_two_right N x2 x5 x8 x11 x14 x17 >>= fun x202 =>
if (!x202) = true then (
some (.inl ()))
else (
((iterO N (fun s => F_product_Differ_l0 N x2 x5 x8 x11 x14 x17 s) 0) : Option (Unit ⊕ (Unit ⊕ (Int × (List Int) × Int × Int)))) >>= fun z => match z with
| .inr z => some z
| .inl _ =>
some (.inl ()))
def F_dofferlaw21_alive (N : Nat)  : Option Bool :=
F_product_Differ N md0r md0l md0m md1r md1l md1m >>= fun z => match z with
| .inl _ => (
((some ()) : Option Unit) >>= fun _ =>
some false)
| .inr (x62, x63, x64, x65) => (
((if (x62 == 0) = true then (
if ((bstr x63).toList == (⟨#[97]⟩ : ByteArray).toList) = true then (
if (x64 == 0) = true then (
some (x65 == (-1)))
else (
some false))
else (
some false))
else (
some false)) : Option Bool) >>= fun x78 =>
some x78)
def F_dofferlaw17_Of_l0 (_N : Nat) (x2 : (List (List Int))) (x302 : Int) (x305 : (List (List Int))) : Option ((Int × (List (List Int))) ⊕ (List (List Int))) :=
if (decide (x302 < (x2.length : Int))) = true then (
idx x2 x302 >>= fun x335 =>
app x305 ([x335]) >>= fun x347 =>
some (.inl (w64 (x302 + 1), x347)))
else (
some (.inr x305))
def F_dofferlaw17_Of (N : Nat)  (x2 : (List (List Int))) (x5 : (List Int)) (x8 : (List Int)) (x10 : Int) : Option ((List (List Int)) × Bool) :=
((if (decide ((x2.length : Int) > x10)) = true then (
some true)
else (
if (decide ((x5.length : Int) > x10)) = true then (
some true)
else (
some (decide ((x8.length : Int) > 20))))) : Option Bool) >>= fun x193 =>
if x193 = true then (
some ([], false))
else (
((iterO N (fun s => F_dofferlaw17_Of_l0 N x2 s.1 s.2) (0, [])) : Option (List (List Int))) >>= fun x275 =>
some (x275, true))
def F_dofferref17_Right_l1 (_N : Nat) (x2 : (List (List Int))) (x939 : Int) (x1026 : (List Int)) (x1092 : Int) : Option (Int ⊕ (Unit ⊕ (Int ⊕ (Unit ⊕ Bool)))) :=
if (decide (x1092 < 256)) = true then (
idx x1026 x1092 >>= fun x1102 =>
((if (decide (x1102 < 0)) = true then (
some true)
else (
if (decide (x1102 ≥ (x2.length : Int))) = true then (
some true)
else (
if (x939 == 0) = true then (
some (x1102 != 0))
else (
some false)))) : Option Bool) >>= fun x1103 =>
if x1103 = true then (
some (.inr (.inr (.inr (.inr false)))))
else (
some (.inl (w64 (x1092 + 1)))))
else (
some (.inr (.inl ())))
def F_dofferref17_Right_l0 (N : Nat) (x2 : (List (List Int))) (x5 : (List Int)) (x939 : Int) : Option (Int ⊕ (Unit ⊕ Bool)) :=
if (decide (x939 < (x2.length : Int))) = true then (
idx x2 x939 >>= fun x1026 =>
((idx x5 x939 >>= fun x1052 =>
if (decide (x1052 < (-1))) = true then (
some true)
else (
idx x5 x939 >>= fun x1059 =>
some (decide (x1059 > 47)))) : Option Bool) >>= fun x1050 =>
if x1050 = true then (
some (.inr (.inr false)))
else (
((iterO N (fun s => F_dofferref17_Right_l1 N x2 x939 x1026 s) 0) : Option (Unit ⊕ (Int ⊕ (Unit ⊕ Bool)))) >>= fun z => match z with
| .inr z => some z
| .inl _ =>
some (.inl (w64 (x939 + 1)))))
else (
some (.inr (.inl ())))
def F_dofferref17_Right_l2 (_N : Nat) (x2 : (List (List Int))) (x8 : (List Int)) (x1157 : Int) : Option (Int ⊕ (Unit ⊕ Bool)) :=
if (decide (x1157 < (x8.length : Int))) = true then (
idx x8 x1157 >>= fun x1173 =>
((if (decide (x1173 < 0)) = true then (
some true)
else (
some (decide (x1173 ≥ (x2.length : Int))))) : Option Bool) >>= fun x1180 =>
if x1180 = true then (
some (.inr (.inr false)))
else (
some (.inl (w64 (x1157 + 1)))))
else (
some (.inr (.inl ())))
def F_dofferref17_Right (N : Nat)  (x2 : (List (List Int))) (x5 : (List Int)) (x8 : (List Int)) : Option Bool :=
((if (decide ((x2.length : Int) < 1)) = true then (
some true)
else (
if (decide ((x2.length : Int) > 200)) = true then (
some true)
else (
if ((x5.length : Int) != (x2.length : Int)) = true then (
some true)
else (
if (decide ((x8.length : Int) < 1)) = true then (
some true)
else (
some (decide ((x8.length : Int) > 8))))))) : Option Bool) >>= fun x603 =>
if x603 = true then (
some false)
else (
((iterO N (fun s => F_dofferref17_Right_l0 N x2 x5 s) 0) : Option (Unit ⊕ Bool)) >>= fun z => match z with
| .inr z => some z
| .inl _ =>
((iterO N (fun s => F_dofferref17_Right_l2 N x2 x8 s) 0) : Option (Unit ⊕ Bool)) >>= fun z => match z with
| .inr z => some z
| .inl _ =>
idx x5 0 >>= fun x1184 =>
some (x1184 == (-1)))
def F_dofferref21_Far_l1 (_N : Nat) (x5 : (List Int)) (x14 : (List Int)) (x19 : Int) (x272566 : Int) (x274157 : (List Int)) (x275205 : Int) (x275207 : (List Int)) : Option ((Int × (List Int)) ⊕ (List Int)) :=
if (decide (x275205 < (x274157.length : Int))) = true then (
((idx x275207 x275205 >>= fun _x275601 =>
setI x275207 x275205 (-1) >>= fun x275608 =>
((if (x19 == 0) = true then (
idx x5 x272566 >>= fun x275656 =>
idx x14 x275205 >>= fun x275663 =>
if (x275656 != x275663) = true then (
some true)
else (
if (x19 == 1) = true then (
idx x5 x272566 >>= fun x275670 =>
if (decide (x275670 ≥ 0)) = true then (
idx x14 x275205 >>= fun x275677 =>
some (decide (x275677 ≥ 0)))
else (
some false))
else (
some false)))
else (
if (x19 == 1) = true then (
idx x5 x272566 >>= fun x275684 =>
if (decide (x275684 ≥ 0)) = true then (
idx x14 x275205 >>= fun x275691 =>
some (decide (x275691 ≥ 0)))
else (
some false))
else (
some false))) : Option Bool) >>= fun x275654 =>
((if x275654 = true then (
idx x275608 x275205 >>= fun _x275714 =>
setI x275608 x275205 0 >>= fun x275721 =>
some x275721)
else (
some x275608)) : Option (List Int)) >>= fun x275711 =>
some x275711) : Option (List Int)) >>= fun x275598 =>
some (.inl (w64 (x275205 + 1), x275598)))
else (
some (.inr x275207))
def F_dofferref21_Far_l0 (N : Nat) (x2 : (List (List Int))) (x5 : (List Int)) (x11 : (List (List Int))) (x14 : (List Int)) (x19 : Int) (x272566 : Int) (x272569 : (List (List Int))) : Option ((Int × (List (List Int))) ⊕ (List (List Int))) :=
if (decide (x272566 < (x2.length : Int))) = true then (
mk 0 (x11.length : Int) >>= fun x274157 =>
((iterO N (fun s => F_dofferref21_Far_l1 N x5 x14 x19 x272566 x274157 s.1 s.2) (0, x274157)) : Option (List Int)) >>= fun x274943 =>
app x272569 ([x274943]) >>= fun x275731 =>
some (.inl (w64 (x272566 + 1), x275731)))
else (
some (.inr x272569))
def F_dofferref21_Far_l5 (_N : Nat) (x2 : (List (List Int))) (x11 : (List (List Int))) (x446853 : Int) (x518157 : Int) (x530040 : Int) (x532018 : Bool) (x532019 : Int) (x532021 : (List (List Int))) : Option ((Bool × Int × (List (List Int))) ⊕ (Bool × (List (List Int)))) :=
((if (decide (x532019 < 256)) = true then (
idx x532021 x518157 >>= fun x532236 =>
idx x532236 x530040 >>= fun x532245 =>
some (decide (x532245 < 0)))
else (
some false)) : Option Bool) >>= fun x532234 =>
if x532234 = true then (
((idx x2 x518157 >>= fun x532332 =>
idx x532332 x532019 >>= fun x532339 =>
idx x532021 x532339 >>= fun x532344 =>
idx x11 x530040 >>= fun x532353 =>
idx x532353 x532019 >>= fun x532360 =>
idx x532344 x532360 >>= fun x532365 =>
((if (x532365 == (w64 (x446853 - 1))) = true then (
idx x532021 x518157 >>= fun x532391 =>
idx x532391 x530040 >>= fun _x532400 =>
setI x532391 x530040 x446853 >>= fun x532405 =>
setI x532021 x518157 x532405 >>= fun x532406 =>
some (true, x532406))
else (
some (x532018, x532021))) : Option (Bool × (List (List Int)))) >>= fun (x532387, x532389) =>
some (x532387, x532389)) : Option (Bool × (List (List Int)))) >>= fun (x532328, x532330) =>
some (.inl (x532328, w64 (x532019 + 1), x532330)))
else (
some (.inr (x532018, x532021)))
def F_dofferref21_Far_l4 (N : Nat) (x2 : (List (List Int))) (x11 : (List (List Int))) (x446853 : Int) (x518157 : Int) (x530037 : Bool) (x530039 : (List (List Int))) (x530040 : Int) : Option ((Bool × (List (List Int)) × Int) ⊕ (Bool × (List (List Int)))) :=
if (decide (x530040 < (x11.length : Int))) = true then (
((iterO N (fun s => F_dofferref21_Far_l5 N x2 x11 x446853 x518157 x530040 s.1 s.2.1 s.2.2) (x530037, 0, x530039)) : Option (Bool × (List (List Int)))) >>= fun (x531818, x531820) =>
some (.inl (x531818, x531820, w64 (x530040 + 1))))
else (
some (.inr (x530037, x530039)))
def F_dofferref21_Far_l3 (N : Nat) (x2 : (List (List Int))) (x11 : (List (List Int))) (x446853 : Int) (x518154 : Bool) (x518156 : (List (List Int))) (x518157 : Int) : Option ((Bool × (List (List Int)) × Int) ⊕ (Bool × (List (List Int)))) :=
if (decide (x518157 < (x2.length : Int))) = true then (
((iterO N (fun s => F_dofferref21_Far_l4 N x2 x11 x446853 x518157 s.1 s.2.1 s.2.2) (x518154, x518156, 0)) : Option (Bool × (List (List Int)))) >>= fun (x528848, x528850) =>
some (.inl (x528848, x528850, w64 (x518157 + 1))))
else (
some (.inr (x518154, x518156)))
def F_dofferref21_Far_l2 (N : Nat) (x2 : (List (List Int))) (x11 : (List (List Int))) (x446853 : Int) (x446855 : (List (List Int))) : Option ((Int × (List (List Int))) ⊕ (List (List Int))) :=
((iterO N (fun s => F_dofferref21_Far_l3 N x2 x11 x446853 s.1 s.2.1 s.2.2) (false, x446855, 0)) : Option (Bool × (List (List Int)))) >>= fun (x511023, x511025) =>
if (!x511023) = true then (
some (.inr x511025))
else (
some (.inl (w64 (x446853 + 1), x511025)))
def F_dofferref21_Far (N : Nat)  (x2 : (List (List Int))) (x5 : (List Int)) (_x8 : (List Int)) (x11 : (List (List Int))) (x14 : (List Int)) (_x17 : (List Int)) (x19 : Int) : Option (List (List Int)) :=
((iterO N (fun s => F_dofferref21_Far_l0 N x2 x5 x11 x14 x19 s.1 s.2) (0, [])) : Option (List (List Int))) >>= fun x270981 =>
iterO N (fun s => F_dofferref21_Far_l2 N x2 x11 s.1 s.2) (1, x270981)
def F_dofferref21_entry (_N : Nat)  (_x2 : (List (List Int))) (_x5 : (List Int)) (x8 : (List Int)) (x10 : Int) : Option Int :=
((if (decide (x10 < 0)) = true then (
some true)
else (
some (decide (x10 ≥ (x8.length : Int))))) : Option Bool) >>= fun x26 =>
if x26 = true then (
some 0)
else (
idx x8 x10 >>= fun x29 =>
some x29)
def F_dofferref21_Way_l1 (_N : Nat) (x2 : (List (List Int))) (x11 : (List (List Int))) (x2512 : (List (List Int))) (x4157 : Int) (x4158 : Int) (x4161 : (List Int)) (x4838 : Int) : Option (Int ⊕ (Int × Int × (List Int))) :=
if (decide (x4838 < 256)) = true then (
idx x2 x4157 >>= fun x4904 =>
idx x4904 x4838 >>= fun x4911 =>
idx x11 x4158 >>= fun x4916 =>
idx x4916 x4838 >>= fun x4923 =>
idx x2512 x4911 >>= fun x4928 =>
idx x4928 x4923 >>= fun x4937 =>
idx x2512 x4157 >>= fun x4942 =>
idx x4942 x4158 >>= fun x4951 =>
if (x4937 == (w64 (x4951 - 1))) = true then (
app x4161 ([IntKind.wrap .u8 x4838]) >>= fun x4958 =>
some (.inr (x4911, x4923, x4958)))
else (
some (.inl (w64 (x4838 + 1)))))
else (
some (.inr (x4157, x4158, x4161)))
def F_dofferref21_Way_l0 (N : Nat) (x2 : (List (List Int))) (x11 : (List (List Int))) (x2512 : (List (List Int))) (x4157 : Int) (x4158 : Int) (x4161 : (List Int)) : Option ((Int × Int × (List Int)) ⊕ (Int × Int × (List Int))) :=
idx x2512 x4157 >>= fun x4569 =>
idx x4569 x4158 >>= fun x4578 =>
if (decide (x4578 > 0)) = true then (
((iterO N (fun s => F_dofferref21_Way_l1 N x2 x11 x2512 x4157 x4158 x4161 s) 0) : Option (Int × Int × (List Int))) >>= fun (x4770, x4771, x4774) =>
some (.inl (x4770, x4771, x4774)))
else (
some (.inr (x4157, x4158, x4161)))
def F_dofferref21_Way (N : Nat)  (x2 : (List (List Int))) (x5 : (List Int)) (x8 : (List Int)) (x11 : (List (List Int))) (x14 : (List Int)) (x17 : (List Int)) (x19 : Int) (x20 : Int) : Option ((List Int) × Int × Int × Bool) :=
F_dofferref21_Far N x2 x5 x8 x11 x14 x17 x20 >>= fun x2512 =>
F_dofferref21_entry N x2 x5 x8 x19 >>= fun x2516 =>
F_dofferref21_entry N x11 x14 x17 x19 >>= fun x2520 =>
idx x2512 x2516 >>= fun x2522 =>
idx x2522 x2520 >>= fun x2531 =>
if (decide (x2531 < 0)) = true then (
some ([], 0, 0, false))
else (
((iterO N (fun s => F_dofferref21_Way_l0 N x2 x11 x2512 s.1 s.2.1 s.2.2) (x2516, x2520, [])) : Option (Int × Int × (List Int))) >>= fun (x3748, x3749, x3752) =>
idx x5 x3748 >>= fun x4966 =>
idx x14 x3749 >>= fun x4973 =>
some (x3752, x4966, x4973, true))
def F_product_Alike (N : Nat)  (x2 : (List (List Int))) (x5 : (List Int)) (x8 : (List Int)) (x11 : (List (List Int))) (x14 : (List Int)) (x17 : (List Int)) : Option Bool :=
F_product_Differ N x2 x5 x8 x11 x14 x17 >>= fun z => match z with
| .inl _ => (
((F_product_two_right N x2 x5 x8 x11 x14 x17 >>= fun x80 =>
some x80) : Option Bool) >>= fun x76 =>
some x76)
| .inr (_x62, _x63, _x64, _x65) => (
((some ()) : Option Unit) >>= fun _ =>
some false)
def F_product_Fewer (N : Nat)  (x2 : (List (List Int))) (x5 : (List Int)) (x8 : (List Int)) (x11 : (List (List Int))) (x14 : (List Int)) (x17 : (List Int)) : Option Bool :=
((F_product_Alike N x2 x5 x8 x11 x14 x17 >>= fun x51 =>
if x51 = true then (
some (decide ((x2.length : Int) < (x11.length : Int))))
else (
some false)) : Option Bool) >>= fun x47 =>
some x47
def F_dofferlaw21_ProductDiffer_l0 (N : Nat) (x5 : (List Int)) (x8 : (List Int)) (x14 : (List Int)) (x17 : (List Int)) (x1356 : (List (List Int))) (x1367 : (List (List Int))) (x1845 : Bool) (x1846 : Int) (x1849 : (List Int)) (x1851 : Int) (x1852 : Int) (x1853 : Bool) (x1854 : Int) : Option ((Bool × Int × (List Int) × Int × Int × Bool × Int) ⊕ (Bool × Int × (List Int) × Int × Int × Bool)) :=
((if x1845 = true then (
if (!x1853) = true then (
if (decide (x1854 < (x8.length : Int))) = true then (
some (true, true))
else (
some (true, decide (x1854 < (x17.length : Int)))))
else (
some (true, false)))
else (
some (false, false))) : Option (Bool × Bool)) >>= fun (x1927, x1928) =>
if x1928 = true then (
((F_dofferref21_Way N x1356 x5 x8 x1367 x14 x17 x1854 0 >>= fun (x1966, x1967, x1968, x1969) =>
((if x1969 = true then (
some (x1854, x1966, x1967, x1968, true))
else (
some (x1846, x1849, x1851, x1852, x1853))) : Option (Int × (List Int) × Int × Int × Bool)) >>= fun (x1973, x1976, x1978, x1979, x1980) =>
some (x1973, x1976, x1978, x1979, x1980)) : Option (Int × (List Int) × Int × Int × Bool)) >>= fun (x1953, x1956, x1958, x1959, x1960) =>
some (.inl (x1927, x1953, x1956, x1958, x1959, x1960, w64 (x1854 + 1))))
else (
some (.inr (x1927, x1846, x1849, x1851, x1852, x1853)))
def F_dofferlaw21_ProductDiffer_l1 (N : Nat) (x5 : (List Int)) (x8 : (List Int)) (x14 : (List Int)) (x17 : (List Int)) (x1356 : (List (List Int))) (x1367 : (List (List Int))) (x2484 : Bool) (x2485 : Int) (x2488 : (List Int)) (x2490 : Int) (x2491 : Int) (x2492 : Bool) (x2493 : Int) : Option ((Bool × Int × (List Int) × Int × Int × Bool × Int) ⊕ (Bool × Int × (List Int) × Int × Int × Bool)) :=
((if x2484 = true then (
if (!x2492) = true then (
if (decide (x2493 < (x8.length : Int))) = true then (
some (true, true))
else (
some (true, decide (x2493 < (x17.length : Int)))))
else (
some (true, false)))
else (
some (false, false))) : Option (Bool × Bool)) >>= fun (x2566, x2567) =>
if x2567 = true then (
((F_dofferref21_Way N x1356 x5 x8 x1367 x14 x17 x2493 0 >>= fun (x2605, x2606, x2607, x2608) =>
((if x2608 = true then (
some (x2493, x2605, x2606, x2607, true))
else (
some (x2485, x2488, x2490, x2491, x2492))) : Option (Int × (List Int) × Int × Int × Bool)) >>= fun (x2612, x2615, x2617, x2618, x2619) =>
some (x2612, x2615, x2617, x2618, x2619)) : Option (Int × (List Int) × Int × Int × Bool)) >>= fun (x2592, x2595, x2597, x2598, x2599) =>
some (.inl (x2566, x2592, x2595, x2597, x2598, x2599, w64 (x2493 + 1))))
else (
some (.inr (x2566, x2485, x2488, x2490, x2491, x2492)))
def F_dofferlaw21_ProductDiffer (N : Nat)  (x2 : (List (List Int))) (x5 : (List Int)) (x8 : (List Int)) (x11 : (List (List Int))) (x14 : (List Int)) (x17 : (List Int)) : Option Bool :=
F_dofferlaw21_alive N >>= fun x1349 =>
if (!x1349) = true then (
some false)
else (
F_dofferlaw17_Of N x2 x5 x8 10 >>= fun (x1356, x1357) =>
F_dofferlaw17_Of N x11 x14 x17 10 >>= fun (x1367, x1368) =>
((if (!x1357) = true then (
some true)
else (
some (!x1368))) : Option Bool) >>= fun x1374 =>
if x1374 = true then (
some true)
else (
F_product_Differ N x2 x5 x8 x11 x14 x17 >>= fun z => match z with
| .inl _ => (
((F_dofferref17_Right N x1356 x5 x8 >>= fun x1403 =>
if x1403 = true then (
F_dofferref17_Right N x1367 x14 x17 >>= fun x1407 =>
some x1407)
else (
some false)) : Option Bool) >>= fun x1399 =>
((iterO N (fun s => F_dofferlaw21_ProductDiffer_l0 N x5 x8 x14 x17 x1356 x1367 s.1 s.2.1 s.2.2.1 s.2.2.2.1 s.2.2.2.2.1 s.2.2.2.2.2.1 s.2.2.2.2.2.2) (x1399, 0, [], 0, 0, false, 0)) : Option (Bool × Int × (List Int) × Int × Int × Bool)) >>= fun (x1694, x1695, x1698, x1700, x1701, x1702) =>
((if (false != x1702) = true then (
some true)
else (
if (0 != x1695) = true then (
some true)
else (
if ((bstr ([])).toList != (bstr x1698).toList) = true then (
some true)
else (
if (0 != x1700) = true then (
some true)
else (
some (0 != x1701)))))) : Option Bool) >>= fun x1988 =>
if x1988 = true then (
some false)
else (
((F_product_Alike N x2 x5 x8 x11 x14 x17 >>= fun x2012 =>
if x1694 = true then (
if (x2012 == (!x1702)) = true then (
F_product_Fewer N x2 x5 x8 x11 x14 x17 >>= fun x2017 =>
if (!x1702) = true then (
some (x2017 == (decide ((x2.length : Int) < (x11.length : Int)))))
else (
some (x2017 == false)))
else (
some false))
else (
if (x2012 == false) = true then (
F_product_Fewer N x2 x5 x8 x11 x14 x17 >>= fun x2022 =>
some (x2022 == false))
else (
some false))) : Option Bool) >>= fun x2008 =>
some x2008))
| .inr (x1381, x1382, x1383, x1384) => (
((F_dofferref17_Right N x1356 x5 x8 >>= fun x2042 =>
if x2042 = true then (
F_dofferref17_Right N x1367 x14 x17 >>= fun x2046 =>
some x2046)
else (
some false)) : Option Bool) >>= fun x2038 =>
((iterO N (fun s => F_dofferlaw21_ProductDiffer_l1 N x5 x8 x14 x17 x1356 x1367 s.1 s.2.1 s.2.2.1 s.2.2.2.1 s.2.2.2.2.1 s.2.2.2.2.2.1 s.2.2.2.2.2.2) (x2038, 0, [], 0, 0, false, 0)) : Option (Bool × Int × (List Int) × Int × Int × Bool)) >>= fun (x2333, x2334, x2337, x2339, x2340, x2341) =>
((if (true != x2341) = true then (
some true)
else (
if (x1381 != x2334) = true then (
some true)
else (
if ((bstr x1382).toList != (bstr x2337).toList) = true then (
some true)
else (
if (x1383 != x2339) = true then (
some true)
else (
some (x1384 != x2340)))))) : Option Bool) >>= fun x2627 =>
if x2627 = true then (
some false)
else (
((F_product_Alike N x2 x5 x8 x11 x14 x17 >>= fun x2651 =>
if x2333 = true then (
if (x2651 == (!x2341)) = true then (
F_product_Fewer N x2 x5 x8 x11 x14 x17 >>= fun x2656 =>
if (!x2341) = true then (
some (x2656 == (decide ((x2.length : Int) < (x11.length : Int)))))
else (
some (x2656 == false)))
else (
some false))
else (
if (x2651 == false) = true then (
F_product_Fewer N x2 x5 x8 x11 x14 x17 >>= fun x2661 =>
some (x2661 == false))
else (
some false))) : Option Bool) >>= fun x2647 =>
some x2647))))
end Go.Proofs.YtealkahefalaeaaGreatDoor
