/-
  The pure functions, printed by my program: what each function of the code computes.
-/
import Derived.Test.YtealkahefalaeaaGreatDoorProductBothE3
namespace Go.Proofs.YtealkahefalaeaaGreatDoor
open Go Go.Eng
set_option maxRecDepth 100000
def md1r : List (List Int) := [List.replicate 256 0, (List.replicate 256 0).set 98 (2 : Int), List.replicate 256 0]
def md1l : List Int := [-1, -1, 0]
def md1m : List Int := [1]
def md0r : List (List Int) := [List.replicate 256 0, (List.replicate 256 0).set 97 (2 : Int), List.replicate 256 0]
def md0l : List Int := [-1, -1, 0]
def md0m : List Int := [1]
def tab_math_bits_deBruijn64tab : List Int := [0, 1, 56, 2, 57, 49, 28, 3, 61, 58, 42, 50, 38, 29, 17, 4, 62, 47, 59, 36, 45, 43, 51, 22, 53, 39, 33, 30, 24, 18, 12, 5, 63, 55, 48, 27, 60, 41, 37, 16, 46, 35, 44, 21, 52, 32, 23, 11, 54, 26, 40, 15, 34, 20, 31, 10, 25, 14, 19, 9, 13, 8, 7, 6]
def errIds : List Nat := [0, 1, 2, 3, 4, 5, 6, 7, 8, 9, 10, 11, 12, 13, 14, 15, 16, 17]
def F_subset_Right_1 (_N : Nat)  (x1 : Int) (x3 : Int) : Option Bool :=
((if (decide (x1 < 0)) = true then (
some true)
else (
some (decide (x1 ≥ x3)))) : Option Bool) >>= fun x8 =>
some x8
def F_slices_IndexFunc_int_int_l0 (N : Nat) (x2 : (List Int)) (x5 : Int) (x142 : Int) : Option (Int ⊕ (Unit ⊕ Int)) :=
if (decide (x142 < (x2.length : Int))) = true then (
idx x2 x142 >>= fun x159 =>
F_subset_Right_1 N x159 x5 >>= fun x168 =>
if x168 = true then (
some (.inr (.inr x142)))
else (
some (.inl (w64 (x142 + 1)))))
else (
some (.inr (.inl ())))
def F_slices_IndexFunc_int_int (N : Nat)  (x2 : (List Int)) (x5 : Int) : Option Int :=
((iterO N (fun s => F_slices_IndexFunc_int_int_l0 N x2 x5 s) 0) : Option (Unit ⊕ Int)) >>= fun z => match z with
| .inr z => some z
| .inl _ =>
some (-1)
def F_slices_ContainsFunc_int_int (N : Nat)  (x2 : (List Int)) (x5 : Int) : Option Bool :=
F_slices_IndexFunc_int_int N x2 x5 >>= fun x13 =>
some (decide (x13 ≥ 0))
def F_subset_Right_2 (_N : Nat)  (x1 : Int) : Option Bool :=
((if (decide (x1 < (-1))) = true then (
some true)
else (
some (decide (x1 ≥ 48)))) : Option Bool) >>= fun x6 =>
some x6
def F_slices_IndexFunc_int_int_1_l0 (N : Nat) (x2 : (List Int)) (x140 : Int) : Option (Int ⊕ (Unit ⊕ Int)) :=
if (decide (x140 < (x2.length : Int))) = true then (
idx x2 x140 >>= fun x157 =>
F_subset_Right_2 N x157 >>= fun x166 =>
if x166 = true then (
some (.inr (.inr x140)))
else (
some (.inl (w64 (x140 + 1)))))
else (
some (.inr (.inl ())))
def F_slices_IndexFunc_int_int_1 (N : Nat)  (x2 : (List Int)) : Option Int :=
((iterO N (fun s => F_slices_IndexFunc_int_int_1_l0 N x2 s) 0) : Option (Unit ⊕ Int)) >>= fun z => match z with
| .inr z => some z
| .inl _ =>
some (-1)
def F_slices_ContainsFunc_int_int_1 (N : Nat)  (x2 : (List Int)) : Option Bool :=
F_slices_IndexFunc_int_int_1 N x2 >>= fun x11 =>
some (decide (x11 ≥ 0))
def F_subset_Right_l0 (N : Nat) (x2 : (List (List Int))) (x242 : Int) : Option (Int ⊕ (Unit ⊕ Bool)) :=
if (decide (x242 < (x2.length : Int))) = true then (
idx x2 x242 >>= fun x262 =>
F_slices_ContainsFunc_int_int N x262 (x2.length : Int) >>= fun x274 =>
if x274 = true then (
some (.inr (.inr false)))
else (
some (.inl (w64 (x242 + 1)))))
else (
some (.inr (.inl ())))
def F_subset_Right (N : Nat)  (x2 : (List (List Int))) (x5 : (List Int)) (x8 : (List Int)) : Option Bool :=
((if (decide ((x2.length : Int) < 1)) = true then (
some true)
else (
if (decide ((x2.length : Int) > 200)) = true then (
some true)
else (
if ((x5.length : Int) != (x2.length : Int)) = true then (
some true)
else (
if (decide ((x8.length : Int) < 1)) = true then (
some true)
else (
some (decide ((x8.length : Int) > 8))))))) : Option Bool) >>= fun x174 =>
if x174 = true then (
some false)
else (
((iterO N (fun s => F_subset_Right_l0 N x2 s) 0) : Option (Unit ⊕ Bool)) >>= fun z => match z with
| .inr z => some z
| .inl _ =>
((F_slices_ContainsFunc_int_int_1 N x5 >>= fun x289 =>
if x289 = true then (
some true)
else (
F_slices_ContainsFunc_int_int N x8 (x2.length : Int) >>= fun x293 =>
some x293)) : Option Bool) >>= fun x285 =>
if x285 = true then (
some false)
else (
((idx x2 0 >>= fun x312 =>
if (x312 == (List.replicate 256 0)) = true then (
idx x5 0 >>= fun x319 =>
some (x319 == (-1)))
else (
some false)) : Option Bool) >>= fun x310 =>
some x310))
def F_product_two_right (N : Nat)  (x2 : (List (List Int))) (x5 : (List Int)) (x8 : (List Int)) (x11 : (List (List Int))) (x14 : (List Int)) (x17 : (List Int)) : Option Bool :=
((F_subset_Right N x2 x5 x8 >>= fun x55 =>
if x55 = true then (
F_subset_Right N x11 x14 x17 >>= fun x59 =>
some x59)
else (
some false)) : Option Bool) >>= fun x51 =>
some x51
def F_product_entry (_N : Nat)  (_x2 : (List (List Int))) (_x5 : (List Int)) (x8 : (List Int)) (x10 : Int) : Option Int :=
((if (decide (x10 < 0)) = true then (
some true)
else (
some (decide (x10 ≥ (x8.length : Int))))) : Option Bool) >>= fun x26 =>
if x26 = true then (
some 0)
else (
idx x8 x10 >>= fun x29 =>
some x29)
def F_product_two_begin (N : Nat)  (x2 : (List (List Int))) (x5 : (List Int)) (x8 : (List Int)) (x11 : (List (List Int))) (x14 : (List Int)) (x17 : (List Int)) (x19 : Int) : Option (Int × Int) :=
((F_product_entry N x2 x5 x8 x19 >>= fun x66 =>
F_product_entry N x11 x14 x17 x19 >>= fun x70 =>
some (x66, x70)) : Option (Int × Int)) >>= fun (x61, x62) =>
some (x61, x62)
def F_product_two_rules (_N : Nat)  (_x2 : (List (List Int))) (x5 : (List Int)) (_x8 : (List Int)) (_x11 : (List (List Int))) (x14 : (List Int)) (_x17 : (List Int)) (x19 : Int) (x20 : Int) : Option (Int × Int) :=
idx x5 x19 >>= fun x45 =>
idx x14 x20 >>= fun x52 =>
some (x45, x52)
def F_product_Differ_1 (_N : Nat)  (_x1 : Int) (_x2 : Int) : Option Unit :=
some ()
def F_product_two_next (_N : Nat)  (x2 : (List (List Int))) (_x5 : (List Int)) (_x8 : (List Int)) (x11 : (List (List Int))) (_x14 : (List Int)) (_x17 : (List Int)) (x19 : Int) (x20 : Int) (x21 : Int) : Option (Int × Int) :=
((idx x2 x19 >>= fun x118 =>
idx x118 x21 >>= fun x125 =>
idx x11 x20 >>= fun x130 =>
idx x130 x21 >>= fun x137 =>
some (x125, x137)) : Option (Int × Int)) >>= fun (x115, x116) =>
some (x115, x116)
def F_clone_139 (_N : Nat) (x : (List Int)) : Option (List Int) := app [] x
def F_product_two_find_l1 (N : Nat) (x2 : (List (List Int))) (x5 : (List Int)) (x8 : (List Int)) (x11 : (List (List Int))) (x14 : (List Int)) (x17 : (List Int)) (x35753 : ((Int × Int) × (List Int))) (x37918 : (List ((Int × Int) × (List Int)))) (x37920 : Int) (x37921 : (List ((Int × Int) × Int))) : Option (((List ((Int × Int) × (List Int))) × Int × (List ((Int × Int) × Int))) ⊕ ((List ((Int × Int) × (List Int))) × (List ((Int × Int) × Int)))) :=
if (decide (x37920 < 256)) = true then (
((F_product_two_next N x2 x5 x8 x11 x14 x17 x35753.1.1 x35753.1.2 x37920 >>= fun (x38723, x38724) =>
((if (((mget x37921 (x38723, x38724)).getD 0) == 0) = true then (
((some ()) : Option Unit) >>= fun _ =>
((F_clone_139 N x35753.2 >>= fun x38929 =>
app x38929 ([IntKind.wrap .u8 x37920]) >>= fun x38934 =>
app x37918 ([((x38723, x38724), x38934)]) >>= fun x38944 =>
some x38944) : Option (List ((Int × Int) × (List Int)))) >>= fun x38922 =>
some (x38922, (mset (mset x37921 (x38723, x38724) ((mget x37921 (x38723, x38724)).getD 0)) (x38723, x38724) (w64 (((mget x37921 (x38723, x38724)).getD 0) + 1)))))
else (
some (x37918, x37921))) : Option ((List ((Int × Int) × (List Int))) × (List ((Int × Int) × Int)))) >>= fun (x38852, x38854) =>
some (x38852, x38854)) : Option ((List ((Int × Int) × (List Int))) × (List ((Int × Int) × Int)))) >>= fun (x38717, x38719) =>
some (.inl (x38717, w64 (x37920 + 1), x38719)))
else (
some (.inr (x37918, x37921)))
def F_product_two_find_l0 (N : Nat) (x2 : (List (List Int))) (x5 : (List Int)) (x8 : (List Int)) (x11 : (List (List Int))) (x14 : (List Int)) (x17 : (List Int)) (x32503 : (List ((Int × Int) × (List Int)))) (x32505 : (List ((Int × Int) × Int))) : Option (((List ((Int × Int) × (List Int))) × (List ((Int × Int) × Int))) ⊕ (Unit ⊕ ((Int × Int × (List Int)) ⊕ Unit))) :=
if (decide ((x32503.length : Int) > 0)) = true then (
idx x32503 0 >>= fun x35753 =>
F_product_two_rules N x2 x5 x8 x11 x14 x17 x35753.1.1 x35753.1.2 >>= fun (x35778, x35779) =>
F_product_Differ_1 N x35778 x35779 >>= fun _ =>
if (x35778 != x35779) = true then (
some (.inr (.inr (.inl (x35753.1.1, x35753.1.2, x35753.2)))))
else (
((iterO N (fun s => F_product_two_find_l1 N x2 x5 x8 x11 x14 x17 x35753 s.1 s.2.1 s.2.2) (x32503, 0, x32505)) : Option ((List ((Int × Int) × (List Int))) × (List ((Int × Int) × Int)))) >>= fun (x37382, x37384) =>
slc x37382 1 (x37382.length : Int) >>= fun x38983 =>
some (.inl (x38983, x37384))))
else (
some (.inr (.inl ())))
def F_product_two_find (N : Nat)  (x2 : (List (List Int))) (x5 : (List Int)) (x8 : (List Int)) (x11 : (List (List Int))) (x14 : (List Int)) (x17 : (List Int)) (x19 : Int) : Option ((Int × Int × (List Int)) ⊕ Unit) :=
F_product_two_begin N x2 x5 x8 x11 x14 x17 x19 >>= fun (x19516, x19517) =>
((iterO N (fun s => F_product_two_find_l0 N x2 x5 x8 x11 x14 x17 s.1 s.2) ([((x19516, x19517), [])], (mset ([] : List ((Int × Int) × Int)) (x19516, x19517) 1))) : Option (Unit ⊕ ((Int × Int × (List Int)) ⊕ Unit))) >>= fun z => match z with
| .inr z => some z
| .inl _ =>
some (.inr ())
def F_product_Differ_l0 (N : Nat) (x2 : (List (List Int))) (x5 : (List Int)) (x8 : (List Int)) (x11 : (List (List Int))) (x14 : (List Int)) (x17 : (List Int)) (x303 : Int) : Option (Int ⊕ (Unit ⊕ (Unit ⊕ (Int × (List Int) × Int × Int)))) :=
if (decide (x303 < (imax (x8.length : Int) (x17.length : Int)))) = true then (
F_product_two_find N x2 x5 x8 x11 x14 x17 x303 >>= fun z => match z with
| .inl (x335, x336, x337) => (
F_product_two_rules N x2 x5 x8 x11 x14 x17 x335 x336 >>= fun (x347, x348) =>
some (.inr (.inr (.inr (x303, x337, x347, x348)))))
| .inr _ => (
some (.inl (w64 (x303 + 1)))))
else (
some (.inr (.inl ())))
def F_product_Differ (N : Nat)  (x2 : (List (List Int))) (x5 : (List Int)) (x8 : (List Int)) (x11 : (List (List Int))) (x14 : (List Int)) (x17 : (List Int)) : Option (Unit ⊕ (Int × (List Int) × Int × Int)) :=
F_product_two_right N x2 x5 x8 x11 x14 x17 >>= fun x202 =>
if (!x202) = true then (
some (.inl ()))
else (
((iterO N (fun s => F_product_Differ_l0 N x2 x5 x8 x11 x14 x17 s) 0) : Option (Unit ⊕ (Unit ⊕ (Int × (List Int) × Int × Int)))) >>= fun z => match z with
| .inr z => some z
| .inl _ =>
some (.inl ()))
def F_dofferlaw21_alive (N : Nat)  : Option Bool :=
F_product_Differ N md0r md0l md0m md1r md1l md1m >>= fun z => match z with
| .inl _ => (
((some ()) : Option Unit) >>= fun _ =>
some false)
| .inr (x62, x63, x64, x65) => (
((if (x62 == 0) = true then (
if ((bstr x63).toList == (⟨#[97]⟩ : ByteArray).toList) = true then (
if (x64 == 0) = true then (
some (x65 == (-1)))
else (
some false))
else (
some false))
else (
some false)) : Option Bool) >>= fun x78 =>
some x78)
def F_dofferlaw17_Of_l0 (_N : Nat) (x2 : (List (List Int))) (x302 : Int) (x305 : (List (List Int))) : Option ((Int × (List (List Int))) ⊕ (List (List Int))) :=
if (decide (x302 < (x2.length : Int))) = true then (
idx x2 x302 >>= fun x335 =>
app x305 ([x335]) >>= fun x347 =>
some (.inl (w64 (x302 + 1), x347)))
else (
some (.inr x305))
def F_dofferlaw17_Of (N : Nat)  (x2 : (List (List Int))) (x5 : (List Int)) (x8 : (List Int)) (x10 : Int) : Option ((List (List Int)) × Bool) :=
((if (decide ((x2.length : Int) > x10)) = true then (
some true)
else (
if (decide ((x5.length : Int) > x10)) = true then (
some true)
else (
some (decide ((x8.length : Int) > 20))))) : Option Bool) >>= fun x193 =>
if x193 = true then (
some ([], false))
else (
((iterO N (fun s => F_dofferlaw17_Of_l0 N x2 s.1 s.2) (0, [])) : Option (List (List Int))) >>= fun x275 =>
some (x275, true))
def F_product_joiner_state (N : Nat)  (x3 : (List (List Int))) (x6 : (List Int)) (x9 : (List Int)) (x12 : (List (List Int))) (x15 : (List Int)) (x18 : (List Int)) (_x21 : (List (List Int))) (x25 : (List Int)) (_x29 : (List Int)) (x33 : (List ((Int × Int) × Int))) (x35 : (List (Int × Int))) (x38 : Int) (x39 : Int) : Option ((List Int) × (List ((Int × Int) × Int)) × (List (Int × Int)) × Int) :=
((if (x38 == 0) = true then (
some true)
else (
some (x39 == 0))) : Option Bool) >>= fun x108 =>
((if x108 = true then (
some (0, 0))
else (
some (x38, x39))) : Option (Int × Int)) >>= fun (x112, x113) =>
if ((mget x33 (x112, x113)).isSome) = true then (
some (x25, x33, x35, (mget x33 (x112, x113)).getD 0))
else (
((some ()) : Option Unit) >>= fun _ =>
((app x35 ([(x112, x113)]) >>= fun x137 =>
some x137) : Option (List (Int × Int))) >>= fun x132 =>
F_product_two_rules N x3 x6 x9 x12 x15 x18 x112 x113 >>= fun (x147, x148) =>
((if (x148 == (-1)) = true then (
some (-1))
else (
some x147)) : Option Int) >>= fun x150 =>
app x25 ([x150]) >>= fun x155 =>
some (x155, (mset x33 (x112, x113) (x35.length : Int)), x132, (x35.length : Int)))
def F_product_Both_l0 (N : Nat) (x2 : (List (List Int))) (x5 : (List Int)) (x8 : (List Int)) (x11 : (List (List Int))) (x14 : (List Int)) (x17 : (List Int)) (x11637 : Int) (x11640 : (List Int)) (x11644 : (List Int)) (x11646 : (List ((Int × Int) × Int))) (x11649 : (List (Int × Int))) : Option ((Int × (List Int) × (List Int) × (List ((Int × Int) × Int)) × (List (Int × Int))) ⊕ ((List Int) × (List Int) × (List ((Int × Int) × Int)) × (List (Int × Int)))) :=
if (decide (x11637 < (x8.length : Int))) = true then (
((F_product_two_begin N x2 x5 x8 x11 x14 x17 x11637 >>= fun (x12036, x12037) =>
F_product_joiner_state N x2 x5 x8 x11 x14 x17 ([]) x11640 x11644 x11646 x11649 x12036 x12037 >>= fun (x12045, x12046, x12047, x12048) =>
app x11644 ([x12048]) >>= fun x12054 =>
some (x12045, x12054, x12046, x12047)) : Option ((List Int) × (List Int) × (List ((Int × Int) × Int)) × (List (Int × Int)))) >>= fun (x12022, x12026, x12028, x12031) =>
some (.inl (w64 (x11637 + 1), x12022, x12026, x12028, x12031)))
else (
some (.inr (x11640, x11644, x11646, x11649)))
def F_product_Both_l2 (N : Nat) (x2 : (List (List Int))) (x5 : (List Int)) (x8 : (List Int)) (x11 : (List (List Int))) (x14 : (List Int)) (x17 : (List Int)) (x11376 : (List Int)) (x18124 : (List (List Int))) (x18135 : Int) (x20599 : (List Int)) (x20601 : (List ((Int × Int) × Int))) (x20604 : (List (Int × Int))) (x20606 : Int) (x20608 : (List Int)) : Option (((List Int) × (List ((Int × Int) × Int)) × (List (Int × Int)) × Int × (List Int)) ⊕ ((List Int) × (List ((Int × Int) × Int)) × (List (Int × Int)) × (List Int))) :=
if (decide (x20606 < 256)) = true then (
((idx x20604 x18135 >>= fun x20970 =>
F_product_two_next N x2 x5 x8 x11 x14 x17 x20970.1 x20970.2 x20606 >>= fun (x20984, x20985) =>
F_product_joiner_state N x2 x5 x8 x11 x14 x17 x18124 x20599 x11376 x20601 x20604 x20984 x20985 >>= fun (x20993, x20994, x20995, x20996) =>
idx x20608 x20606 >>= fun _x21000 =>
setI x20608 x20606 x20996 >>= fun x21003 =>
some (x20993, x20994, x20995, x21003)) : Option ((List Int) × (List ((Int × Int) × Int)) × (List (Int × Int)) × (List Int))) >>= fun (x20958, x20960, x20963, x20966) =>
some (.inl (x20958, x20960, x20963, w64 (x20606 + 1), x20966)))
else (
some (.inr (x20599, x20601, x20604, x20608)))
def F_product_Both_l1 (N : Nat) (x2 : (List (List Int))) (x5 : (List Int)) (x8 : (List Int)) (x11 : (List (List Int))) (x14 : (List Int)) (x17 : (List Int)) (x11376 : (List Int)) (x18124 : (List (List Int))) (x18128 : (List Int)) (x18130 : (List ((Int × Int) × Int))) (x18133 : (List (Int × Int))) (x18135 : Int) : Option (((List (List Int)) × (List Int) × (List ((Int × Int) × Int)) × (List (Int × Int)) × Int) ⊕ (((List (List Int)) × (List Int) × (List ((Int × Int) × Int)) × (List (Int × Int))) ⊕ ((List (List Int)) × (List Int) × (List Int) × Int))) :=
if (decide (x18135 < (x18133.length : Int))) = true then (
((iterO N (fun s => F_product_Both_l2 N x2 x5 x8 x11 x14 x17 x11376 x18124 x18135 s.1 s.2.1 s.2.2.1 s.2.2.2.1 s.2.2.2.2) (x18128, x18130, x18133, 0, (List.replicate 256 0))) : Option ((List Int) × (List ((Int × Int) × Int)) × (List (Int × Int)) × (List Int))) >>= fun (x20348, x20350, x20353, x20356) =>
if (decide ((x20353.length : Int) > 200)) = true then (
((some ()) : Option Unit) >>= fun _ =>
some (.inr (.inr ([], [], [], 9))))
else (
((app x18124 ([x20356]) >>= fun x21096 =>
some x21096) : Option (List (List Int))) >>= fun x21091 =>
some (.inl (x21091, x20348, x20350, x20353, w64 (x18135 + 1)))))
else (
some (.inr (.inl (x18124, x18128, x18130, x18133))))
def F_product_Both (N : Nat)  (x2 : (List (List Int))) (x5 : (List Int)) (x8 : (List Int)) (x11 : (List (List Int))) (x14 : (List Int)) (x17 : (List Int)) : Option ((List (List Int)) × (List Int) × (List Int) × Int) :=
((F_product_two_right N x2 x5 x8 x11 x14 x17 >>= fun x10587 =>
if (!x10587) = true then (
some true)
else (
some ((x8.length : Int) != (x17.length : Int)))) : Option Bool) >>= fun x10583 =>
if x10583 = true then (
((some ()) : Option Unit) >>= fun _ =>
some ([], [], [], 2))
else (
F_product_joiner_state N x2 x5 x8 x11 x14 x17 ([]) ([]) ([]) ([] : List ((Int × Int) × Int)) ([]) 0 0 >>= fun (x10600, x10601, x10602, _x10603) =>
((iterO N (fun s => F_product_Both_l0 N x2 x5 x8 x11 x14 x17 s.1 s.2.1 s.2.2.1 s.2.2.2.1 s.2.2.2.2) (0, x10600, ([]), x10601, x10602)) : Option ((List Int) × (List Int) × (List ((Int × Int) × Int)) × (List (Int × Int)))) >>= fun (x11372, x11376, x11378, x11381) =>
((iterO N (fun s => F_product_Both_l1 N x2 x5 x8 x11 x14 x17 x11376 s.1 s.2.1 s.2.2.1 s.2.2.2.1 s.2.2.2.2) (([]), x11372, x11378, x11381, 0)) : Option (((List (List Int)) × (List Int) × (List ((Int × Int) × Int)) × (List (Int × Int))) ⊕ ((List (List Int)) × (List Int) × (List Int) × Int))) >>= fun z => match z with
| .inr z => some z
| .inl (x16621, x16625, _x16627, _x16630) =>
some (x16621, x16625, x11376, 0))
def F_product_Clash_1 (_N : Nat)  (x1 : Int) (x2 : Int) : Option Bool :=
((if (x1 != (-1)) = true then (
some (x2 != (-1)))
else (
some false)) : Option Bool) >>= fun x7 =>
some x7
def F_product_two_find_1_l1 (N : Nat) (x2 : (List (List Int))) (x5 : (List Int)) (x8 : (List Int)) (x11 : (List (List Int))) (x14 : (List Int)) (x17 : (List Int)) (x35764 : ((Int × Int) × (List Int))) (x37930 : (List ((Int × Int) × (List Int)))) (x37932 : Int) (x37933 : (List ((Int × Int) × Int))) : Option (((List ((Int × Int) × (List Int))) × Int × (List ((Int × Int) × Int))) ⊕ ((List ((Int × Int) × (List Int))) × (List ((Int × Int) × Int)))) :=
if (decide (x37932 < 256)) = true then (
((F_product_two_next N x2 x5 x8 x11 x14 x17 x35764.1.1 x35764.1.2 x37932 >>= fun (x38735, x38736) =>
((if (((mget x37933 (x38735, x38736)).getD 0) == 0) = true then (
((some ()) : Option Unit) >>= fun _ =>
((F_clone_139 N x35764.2 >>= fun x38941 =>
app x38941 ([IntKind.wrap .u8 x37932]) >>= fun x38946 =>
app x37930 ([((x38735, x38736), x38946)]) >>= fun x38956 =>
some x38956) : Option (List ((Int × Int) × (List Int)))) >>= fun x38934 =>
some (x38934, (mset (mset x37933 (x38735, x38736) ((mget x37933 (x38735, x38736)).getD 0)) (x38735, x38736) (w64 (((mget x37933 (x38735, x38736)).getD 0) + 1)))))
else (
some (x37930, x37933))) : Option ((List ((Int × Int) × (List Int))) × (List ((Int × Int) × Int)))) >>= fun (x38864, x38866) =>
some (x38864, x38866)) : Option ((List ((Int × Int) × (List Int))) × (List ((Int × Int) × Int)))) >>= fun (x38729, x38731) =>
some (.inl (x38729, w64 (x37932 + 1), x38731)))
else (
some (.inr (x37930, x37933)))
def F_product_two_find_1_l0 (N : Nat) (x2 : (List (List Int))) (x5 : (List Int)) (x8 : (List Int)) (x11 : (List (List Int))) (x14 : (List Int)) (x17 : (List Int)) (x32513 : (List ((Int × Int) × (List Int)))) (x32515 : (List ((Int × Int) × Int))) : Option (((List ((Int × Int) × (List Int))) × (List ((Int × Int) × Int))) ⊕ (Unit ⊕ ((Int × Int × (List Int)) ⊕ Unit))) :=
if (decide ((x32513.length : Int) > 0)) = true then (
idx x32513 0 >>= fun x35764 =>
F_product_two_rules N x2 x5 x8 x11 x14 x17 x35764.1.1 x35764.1.2 >>= fun (x35789, x35790) =>
F_product_Clash_1 N x35789 x35790 >>= fun x35794 =>
if x35794 = true then (
some (.inr (.inr (.inl (x35764.1.1, x35764.1.2, x35764.2)))))
else (
((iterO N (fun s => F_product_two_find_1_l1 N x2 x5 x8 x11 x14 x17 x35764 s.1 s.2.1 s.2.2) (x32513, 0, x32515)) : Option ((List ((Int × Int) × (List Int))) × (List ((Int × Int) × Int)))) >>= fun (x37394, x37396) =>
slc x37394 1 (x37394.length : Int) >>= fun x38995 =>
some (.inl (x38995, x37396))))
else (
some (.inr (.inl ())))
def F_product_two_find_1 (N : Nat)  (x2 : (List (List Int))) (x5 : (List Int)) (x8 : (List Int)) (x11 : (List (List Int))) (x14 : (List Int)) (x17 : (List Int)) (x19 : Int) : Option ((Int × Int × (List Int)) ⊕ Unit) :=
F_product_two_begin N x2 x5 x8 x11 x14 x17 x19 >>= fun (x19522, x19523) =>
((iterO N (fun s => F_product_two_find_1_l0 N x2 x5 x8 x11 x14 x17 s.1 s.2) ([((x19522, x19523), [])], (mset ([] : List ((Int × Int) × Int)) (x19522, x19523) 1))) : Option (Unit ⊕ ((Int × Int × (List Int)) ⊕ Unit))) >>= fun z => match z with
| .inr z => some z
| .inl _ =>
some (.inr ())
def F_product_Clash (N : Nat)  (x2 : (List (List Int))) (x5 : (List Int)) (x8 : (List Int)) (x11 : (List (List Int))) (x14 : (List Int)) (x17 : (List Int)) (x19 : Int) : Option (Unit ⊕ (List Int)) :=
F_product_two_right N x2 x5 x8 x11 x14 x17 >>= fun x59 =>
if (!x59) = true then (
some (.inl ()))
else (
F_product_two_find_1 N x2 x5 x8 x11 x14 x17 x19 >>= fun z => match z with
| .inl (_x64, _x65, x66) => (
some (.inr x66))
| .inr _ => (
some (.inl ())))
def F_dofferref17_Right_l1 (_N : Nat) (x2 : (List (List Int))) (x939 : Int) (x1026 : (List Int)) (x1092 : Int) : Option (Int ⊕ (Unit ⊕ (Int ⊕ (Unit ⊕ Bool)))) :=
if (decide (x1092 < 256)) = true then (
idx x1026 x1092 >>= fun x1102 =>
((if (decide (x1102 < 0)) = true then (
some true)
else (
if (decide (x1102 ≥ (x2.length : Int))) = true then (
some true)
else (
if (x939 == 0) = true then (
some (x1102 != 0))
else (
some false)))) : Option Bool) >>= fun x1103 =>
if x1103 = true then (
some (.inr (.inr (.inr (.inr false)))))
else (
some (.inl (w64 (x1092 + 1)))))
else (
some (.inr (.inl ())))
def F_dofferref17_Right_l0 (N : Nat) (x2 : (List (List Int))) (x5 : (List Int)) (x939 : Int) : Option (Int ⊕ (Unit ⊕ Bool)) :=
if (decide (x939 < (x2.length : Int))) = true then (
idx x2 x939 >>= fun x1026 =>
((idx x5 x939 >>= fun x1052 =>
if (decide (x1052 < (-1))) = true then (
some true)
else (
idx x5 x939 >>= fun x1059 =>
some (decide (x1059 > 47)))) : Option Bool) >>= fun x1050 =>
if x1050 = true then (
some (.inr (.inr false)))
else (
((iterO N (fun s => F_dofferref17_Right_l1 N x2 x939 x1026 s) 0) : Option (Unit ⊕ (Int ⊕ (Unit ⊕ Bool)))) >>= fun z => match z with
| .inr z => some z
| .inl _ =>
some (.inl (w64 (x939 + 1)))))
else (
some (.inr (.inl ())))
def F_dofferref17_Right_l2 (_N : Nat) (x2 : (List (List Int))) (x8 : (List Int)) (x1157 : Int) : Option (Int ⊕ (Unit ⊕ Bool)) :=
if (decide (x1157 < (x8.length : Int))) = true then (
idx x8 x1157 >>= fun x1173 =>
((if (decide (x1173 < 0)) = true then (
some true)
else (
some (decide (x1173 ≥ (x2.length : Int))))) : Option Bool) >>= fun x1180 =>
if x1180 = true then (
some (.inr (.inr false)))
else (
some (.inl (w64 (x1157 + 1)))))
else (
some (.inr (.inl ())))
def F_dofferref17_Right (N : Nat)  (x2 : (List (List Int))) (x5 : (List Int)) (x8 : (List Int)) : Option Bool :=
((if (decide ((x2.length : Int) < 1)) = true then (
some true)
else (
if (decide ((x2.length : Int) > 200)) = true then (
some true)
else (
if ((x5.length : Int) != (x2.length : Int)) = true then (
some true)
else (
if (decide ((x8.length : Int) < 1)) = true then (
some true)
else (
some (decide ((x8.length : Int) > 8))))))) : Option Bool) >>= fun x603 =>
if x603 = true then (
some false)
else (
((iterO N (fun s => F_dofferref17_Right_l0 N x2 x5 s) 0) : Option (Unit ⊕ Bool)) >>= fun z => match z with
| .inr z => some z
| .inl _ =>
((iterO N (fun s => F_dofferref17_Right_l2 N x2 x8 s) 0) : Option (Unit ⊕ Bool)) >>= fun z => match z with
| .inr z => some z
| .inl _ =>
idx x5 0 >>= fun x1184 =>
some (x1184 == (-1)))
def F_doffernum_Num_l0 (_N : Nat) (x1 : Int) (x122 : Int) : Option (Int ⊕ (Unit ⊕ Int)) :=
if (decide (x122 < (([1, 3, 4, 2, 5, 6, 7, 8, 9, 10, 11, 12, 13, 14, 15, 16, 17, 18]).length : Int))) = true then (
idx ([1, 3, 4, 2, 5, 6, 7, 8, 9, 10, 11, 12, 13, 14, 15, 16, 17, 18]) x122 >>= fun x137 =>
isO errIds x1 x137 >>= fun x144 =>
if x144 = true then (
some (.inr (.inr (w64 (x122 + 1)))))
else (
some (.inl (w64 (x122 + 1)))))
else (
some (.inr (.inl ())))
def F_doffernum_Num (N : Nat)  (x1 : Int) : Option Int :=
if (!(eOk errIds x1)) = true then (
some 0)
else (
((iterO N (fun s => F_doffernum_Num_l0 N x1 s) 0) : Option (Unit ⊕ Int)) >>= fun z => match z with
| .inr z => some z
| .inl _ =>
some (-1))
def F_dofferref21_place_1_l0 (_N : Nat) (x2 : (List (Int × Int))) (x5 : Int) (x6 : Int) (x231 : Int) : Option (Int ⊕ (Unit ⊕ ((List (Int × Int)) × Int))) :=
if (decide (x231 < (x2.length : Int))) = true then (
idx x2 x231 >>= fun x255 =>
((if (x255.1 == x5) = true then (
some (x255.2 == x6))
else (
some false)) : Option Bool) >>= fun x270 =>
if x270 = true then (
some (.inr (.inr (x2, x231))))
else (
some (.inl (w64 (x231 + 1)))))
else (
some (.inr (.inl ())))
def F_dofferref21_place_1 (N : Nat)  (x2 : (List (Int × Int))) (x5 : Int) (x6 : Int) : Option ((List (Int × Int)) × Int) :=
((if (x5 == 0) = true then (
some true)
else (
some (x6 == 0))) : Option Bool) >>= fun x147 =>
if x147 = true then (
some (x2, 0))
else (
((iterO N (fun s => F_dofferref21_place_1_l0 N x2 x5 x6 s) 0) : Option (Unit ⊕ ((List (Int × Int)) × Int))) >>= fun z => match z with
| .inr z => some z
| .inl _ =>
app x2 ([(x5, x6)]) >>= fun x276 =>
some (x276, (x2.length : Int)))
def F_dofferref21_Both_l0 (N : Nat) (x8 : (List Int)) (x17 : (List Int)) (x6550 : Int) (x6553 : (List Int)) (x6557 : (List (Int × Int))) : Option ((Int × (List Int) × (List (Int × Int))) ⊕ ((List Int) × (List (Int × Int)))) :=
if (decide (x6550 < (x8.length : Int))) = true then (
idx x8 x6550 >>= fun x6603 =>
idx x17 x6550 >>= fun x6610 =>
F_dofferref21_place_1 N x6557 x6603 x6610 >>= fun (x6621, x6622) =>
app x6553 ([x6622]) >>= fun x6627 =>
some (.inl (w64 (x6550 + 1), x6627, x6621)))
else (
some (.inr (x6553, x6557)))
def F_dofferref21_Both_l2 (N : Nat) (x2 : (List (List Int))) (x11 : (List (List Int))) (x10676 : Int) (x12496 : (List Int)) (x12499 : Int) (x12502 : (List (Int × Int))) : Option (((List Int) × Int × (List (Int × Int))) ⊕ (((List Int) × (List (Int × Int))) ⊕ (((List (List Int)) × (List Int) × (List (Int × Int))) ⊕ ((Int × (List (List Int)) × (List Int) × (List (Int × Int))) ⊕ (((List (List Int)) × (List Int)) ⊕ ((List (List Int)) × (List Int) × (List Int) × Int)))))) :=
if (decide (x12499 < 256)) = true then (
idx x12502 x10676 >>= fun x12577 =>
idx x2 x12577.1 >>= fun x12587 =>
idx x12587 x12499 >>= fun x12594 =>
idx x12502 x10676 >>= fun x12599 =>
idx x11 x12599.2 >>= fun x12609 =>
idx x12609 x12499 >>= fun x12616 =>
F_dofferref21_place_1 N x12502 x12594 x12616 >>= fun (x12625, x12626) =>
idx x12496 x12499 >>= fun _x12629 =>
setI x12496 x12499 x12626 >>= fun x12632 =>
if (decide ((x12625.length : Int) > 200)) = true then (
some (.inr (.inr (.inr (.inr (.inr ([], [], [], 9)))))))
else (
some (.inl (x12632, w64 (x12499 + 1), x12625))))
else (
some (.inr (.inl (x12496, x12502))))
def F_dofferref21_Both_l1 (N : Nat) (x2 : (List (List Int))) (x5 : (List Int)) (x11 : (List (List Int))) (x14 : (List Int)) (x10676 : Int) (x10679 : (List (List Int))) (x10683 : (List Int)) (x10687 : (List (Int × Int))) : Option ((Int × (List (List Int)) × (List Int) × (List (Int × Int))) ⊕ (((List (List Int)) × (List Int)) ⊕ ((List (List Int)) × (List Int) × (List Int) × Int))) :=
if (decide (x10676 < (x10687.length : Int))) = true then (
((((iterO N (fun s => F_dofferref21_Both_l2 N x2 x11 x10676 s.1 s.2.1 s.2.2) ((List.replicate 256 0), 0, x10687)) : Option (((List Int) × (List (Int × Int))) ⊕ (((List (List Int)) × (List Int) × (List (Int × Int))) ⊕ ((Int × (List (List Int)) × (List Int) × (List (Int × Int))) ⊕ (((List (List Int)) × (List Int)) ⊕ ((List (List Int)) × (List Int) × (List Int) × Int)))))) >>= fun z => match z with
| .inr z => some z
| .inl (x12418, x12423) =>
app x10679 ([x12418]) >>= fun x12640 =>
idx x12423 x10676 >>= fun x12647 =>
idx x5 x12647.1 >>= fun x12657 =>
idx x12423 x10676 >>= fun x12664 =>
idx x14 x12664.2 >>= fun x12674 =>
((if (decide (x12674 < 0)) = true then (
some (-1))
else (
some x12657)) : Option Int) >>= fun x12681 =>
app x10683 ([x12681]) >>= fun x12686 =>
some (.inl (x12640, x12686, x12423))) : Option (((List (List Int)) × (List Int) × (List (Int × Int))) ⊕ ((Int × (List (List Int)) × (List Int) × (List (Int × Int))) ⊕ (((List (List Int)) × (List Int)) ⊕ ((List (List Int)) × (List Int) × (List Int) × Int))))) >>= fun z => match z with
| .inr z => some z
| .inl (x12192, x12196, x12200) =>
some (.inl (w64 (x10676 + 1), x12192, x12196, x12200)))
else (
some (.inr (.inl (x10679, x10683))))
def F_dofferref21_Both (N : Nat)  (x2 : (List (List Int))) (x5 : (List Int)) (x8 : (List Int)) (x11 : (List (List Int))) (x14 : (List Int)) (x17 : (List Int)) : Option ((List (List Int)) × (List Int) × (List Int) × Int) :=
if ((x8.length : Int) != (x17.length : Int)) = true then (
some ([], [], [], 4))
else (
((iterO N (fun s => F_dofferref21_Both_l0 N x8 x17 s.1 s.2.1 s.2.2) (0, [], [((0 : Int), (0 : Int))])) : Option ((List Int) × (List (Int × Int)))) >>= fun (x6503, x6507) =>
((iterO N (fun s => F_dofferref21_Both_l1 N x2 x5 x11 x14 s.1 s.2.1 s.2.2.1 s.2.2.2) (0, [], [], x6507)) : Option (((List (List Int)) × (List Int)) ⊕ ((List (List Int)) × (List Int) × (List Int) × Int))) >>= fun z => match z with
| .inr z => some z
| .inl (x9662, x9666) =>
some (x9662, x9666, x6503, 0))
def F_dofferref21_Far_l1 (_N : Nat) (x5 : (List Int)) (x14 : (List Int)) (x19 : Int) (x272566 : Int) (x274157 : (List Int)) (x275205 : Int) (x275207 : (List Int)) : Option ((Int × (List Int)) ⊕ (List Int)) :=
if (decide (x275205 < (x274157.length : Int))) = true then (
((idx x275207 x275205 >>= fun _x275601 =>
setI x275207 x275205 (-1) >>= fun x275608 =>
((if (x19 == 0) = true then (
idx x5 x272566 >>= fun x275656 =>
idx x14 x275205 >>= fun x275663 =>
if (x275656 != x275663) = true then (
some true)
else (
if (x19 == 1) = true then (
idx x5 x272566 >>= fun x275670 =>
if (decide (x275670 ≥ 0)) = true then (
idx x14 x275205 >>= fun x275677 =>
some (decide (x275677 ≥ 0)))
else (
some false))
else (
some false)))
else (
if (x19 == 1) = true then (
idx x5 x272566 >>= fun x275684 =>
if (decide (x275684 ≥ 0)) = true then (
idx x14 x275205 >>= fun x275691 =>
some (decide (x275691 ≥ 0)))
else (
some false))
else (
some false))) : Option Bool) >>= fun x275654 =>
((if x275654 = true then (
idx x275608 x275205 >>= fun _x275714 =>
setI x275608 x275205 0 >>= fun x275721 =>
some x275721)
else (
some x275608)) : Option (List Int)) >>= fun x275711 =>
some x275711) : Option (List Int)) >>= fun x275598 =>
some (.inl (w64 (x275205 + 1), x275598)))
else (
some (.inr x275207))
def F_dofferref21_Far_l0 (N : Nat) (x2 : (List (List Int))) (x5 : (List Int)) (x11 : (List (List Int))) (x14 : (List Int)) (x19 : Int) (x272566 : Int) (x272569 : (List (List Int))) : Option ((Int × (List (List Int))) ⊕ (List (List Int))) :=
if (decide (x272566 < (x2.length : Int))) = true then (
mk 0 (x11.length : Int) >>= fun x274157 =>
((iterO N (fun s => F_dofferref21_Far_l1 N x5 x14 x19 x272566 x274157 s.1 s.2) (0, x274157)) : Option (List Int)) >>= fun x274943 =>
app x272569 ([x274943]) >>= fun x275731 =>
some (.inl (w64 (x272566 + 1), x275731)))
else (
some (.inr x272569))
def F_dofferref21_Far_l5 (_N : Nat) (x2 : (List (List Int))) (x11 : (List (List Int))) (x446853 : Int) (x518157 : Int) (x530040 : Int) (x532018 : Bool) (x532019 : Int) (x532021 : (List (List Int))) : Option ((Bool × Int × (List (List Int))) ⊕ (Bool × (List (List Int)))) :=
((if (decide (x532019 < 256)) = true then (
idx x532021 x518157 >>= fun x532236 =>
idx x532236 x530040 >>= fun x532245 =>
some (decide (x532245 < 0)))
else (
some false)) : Option Bool) >>= fun x532234 =>
if x532234 = true then (
((idx x2 x518157 >>= fun x532332 =>
idx x532332 x532019 >>= fun x532339 =>
idx x532021 x532339 >>= fun x532344 =>
idx x11 x530040 >>= fun x532353 =>
idx x532353 x532019 >>= fun x532360 =>
idx x532344 x532360 >>= fun x532365 =>
((if (x532365 == (w64 (x446853 - 1))) = true then (
idx x532021 x518157 >>= fun x532391 =>
idx x532391 x530040 >>= fun _x532400 =>
setI x532391 x530040 x446853 >>= fun x532405 =>
setI x532021 x518157 x532405 >>= fun x532406 =>
some (true, x532406))
else (
some (x532018, x532021))) : Option (Bool × (List (List Int)))) >>= fun (x532387, x532389) =>
some (x532387, x532389)) : Option (Bool × (List (List Int)))) >>= fun (x532328, x532330) =>
some (.inl (x532328, w64 (x532019 + 1), x532330)))
else (
some (.inr (x532018, x532021)))
def F_dofferref21_Far_l4 (N : Nat) (x2 : (List (List Int))) (x11 : (List (List Int))) (x446853 : Int) (x518157 : Int) (x530037 : Bool) (x530039 : (List (List Int))) (x530040 : Int) : Option ((Bool × (List (List Int)) × Int) ⊕ (Bool × (List (List Int)))) :=
if (decide (x530040 < (x11.length : Int))) = true then (
((iterO N (fun s => F_dofferref21_Far_l5 N x2 x11 x446853 x518157 x530040 s.1 s.2.1 s.2.2) (x530037, 0, x530039)) : Option (Bool × (List (List Int)))) >>= fun (x531818, x531820) =>
some (.inl (x531818, x531820, w64 (x530040 + 1))))
else (
some (.inr (x530037, x530039)))
def F_dofferref21_Far_l3 (N : Nat) (x2 : (List (List Int))) (x11 : (List (List Int))) (x446853 : Int) (x518154 : Bool) (x518156 : (List (List Int))) (x518157 : Int) : Option ((Bool × (List (List Int)) × Int) ⊕ (Bool × (List (List Int)))) :=
if (decide (x518157 < (x2.length : Int))) = true then (
((iterO N (fun s => F_dofferref21_Far_l4 N x2 x11 x446853 x518157 s.1 s.2.1 s.2.2) (x518154, x518156, 0)) : Option (Bool × (List (List Int)))) >>= fun (x528848, x528850) =>
some (.inl (x528848, x528850, w64 (x518157 + 1))))
else (
some (.inr (x518154, x518156)))
def F_dofferref21_Far_l2 (N : Nat) (x2 : (List (List Int))) (x11 : (List (List Int))) (x446853 : Int) (x446855 : (List (List Int))) : Option ((Int × (List (List Int))) ⊕ (List (List Int))) :=
((iterO N (fun s => F_dofferref21_Far_l3 N x2 x11 x446853 s.1 s.2.1 s.2.2) (false, x446855, 0)) : Option (Bool × (List (List Int)))) >>= fun (x511023, x511025) =>
if (!x511023) = true then (
some (.inr x511025))
else (
some (.inl (w64 (x446853 + 1), x511025)))
def F_dofferref21_Far (N : Nat)  (x2 : (List (List Int))) (x5 : (List Int)) (_x8 : (List Int)) (x11 : (List (List Int))) (x14 : (List Int)) (_x17 : (List Int)) (x19 : Int) : Option (List (List Int)) :=
((iterO N (fun s => F_dofferref21_Far_l0 N x2 x5 x11 x14 x19 s.1 s.2) (0, [])) : Option (List (List Int))) >>= fun x270981 =>
iterO N (fun s => F_dofferref21_Far_l2 N x2 x11 s.1 s.2) (1, x270981)
def F_dofferref21_entry (_N : Nat)  (_x2 : (List (List Int))) (_x5 : (List Int)) (x8 : (List Int)) (x10 : Int) : Option Int :=
((if (decide (x10 < 0)) = true then (
some true)
else (
some (decide (x10 ≥ (x8.length : Int))))) : Option Bool) >>= fun x26 =>
if x26 = true then (
some 0)
else (
idx x8 x10 >>= fun x29 =>
some x29)
def F_dofferref21_Way_l1 (_N : Nat) (x2 : (List (List Int))) (x11 : (List (List Int))) (x2512 : (List (List Int))) (x4157 : Int) (x4158 : Int) (x4161 : (List Int)) (x4838 : Int) : Option (Int ⊕ (Int × Int × (List Int))) :=
if (decide (x4838 < 256)) = true then (
idx x2 x4157 >>= fun x4904 =>
idx x4904 x4838 >>= fun x4911 =>
idx x11 x4158 >>= fun x4916 =>
idx x4916 x4838 >>= fun x4923 =>
idx x2512 x4911 >>= fun x4928 =>
idx x4928 x4923 >>= fun x4937 =>
idx x2512 x4157 >>= fun x4942 =>
idx x4942 x4158 >>= fun x4951 =>
if (x4937 == (w64 (x4951 - 1))) = true then (
app x4161 ([IntKind.wrap .u8 x4838]) >>= fun x4958 =>
some (.inr (x4911, x4923, x4958)))
else (
some (.inl (w64 (x4838 + 1)))))
else (
some (.inr (x4157, x4158, x4161)))
def F_dofferref21_Way_l0 (N : Nat) (x2 : (List (List Int))) (x11 : (List (List Int))) (x2512 : (List (List Int))) (x4157 : Int) (x4158 : Int) (x4161 : (List Int)) : Option ((Int × Int × (List Int)) ⊕ (Int × Int × (List Int))) :=
idx x2512 x4157 >>= fun x4569 =>
idx x4569 x4158 >>= fun x4578 =>
if (decide (x4578 > 0)) = true then (
((iterO N (fun s => F_dofferref21_Way_l1 N x2 x11 x2512 x4157 x4158 x4161 s) 0) : Option (Int × Int × (List Int))) >>= fun (x4770, x4771, x4774) =>
some (.inl (x4770, x4771, x4774)))
else (
some (.inr (x4157, x4158, x4161)))
def F_dofferref21_Way (N : Nat)  (x2 : (List (List Int))) (x5 : (List Int)) (x8 : (List Int)) (x11 : (List (List Int))) (x14 : (List Int)) (x17 : (List Int)) (x19 : Int) (x20 : Int) : Option ((List Int) × Int × Int × Bool) :=
F_dofferref21_Far N x2 x5 x8 x11 x14 x17 x20 >>= fun x2512 =>
F_dofferref21_entry N x2 x5 x8 x19 >>= fun x2516 =>
F_dofferref21_entry N x11 x14 x17 x19 >>= fun x2520 =>
idx x2512 x2516 >>= fun x2522 =>
idx x2522 x2520 >>= fun x2531 =>
if (decide (x2531 < 0)) = true then (
some ([], 0, 0, false))
else (
((iterO N (fun s => F_dofferref21_Way_l0 N x2 x11 x2512 s.1 s.2.1 s.2.2) (x2516, x2520, [])) : Option (Int × Int × (List Int))) >>= fun (x3748, x3749, x3752) =>
idx x5 x3748 >>= fun x4966 =>
idx x14 x3749 >>= fun x4973 =>
some (x3752, x4966, x4973, true))
def F_doffernum_SameInts_l0 (_N : Nat) (x2 : (List Int)) (x5 : (List Int)) (x173 : Int) : Option (Int ⊕ (Unit ⊕ Bool)) :=
if (decide (x173 < (x2.length : Int))) = true then (
idx x2 x173 >>= fun x193 =>
idx x5 x173 >>= fun x200 =>
if (x193 != x200) = true then (
some (.inr (.inr false)))
else (
some (.inl (w64 (x173 + 1)))))
else (
some (.inr (.inl ())))
def F_doffernum_SameInts (N : Nat)  (x2 : (List Int)) (x5 : (List Int)) : Option Bool :=
if ((x2.length : Int) != (x5.length : Int)) = true then (
some false)
else (
((iterO N (fun s => F_doffernum_SameInts_l0 N x2 x5 s) 0) : Option (Unit ⊕ Bool)) >>= fun z => match z with
| .inr z => some z
| .inl _ =>
some true)
def F_dofferref17_Same_l0 (_N : Nat) (x2 : (List (List Int))) (x11 : (List (List Int))) (x231 : Int) : Option (Int ⊕ (Unit ⊕ Bool)) :=
if (decide (x231 < (x2.length : Int))) = true then (
idx x2 x231 >>= fun x251 =>
idx x11 x231 >>= fun x258 =>
if (x251 != x258) = true then (
some (.inr (.inr false)))
else (
some (.inl (w64 (x231 + 1)))))
else (
some (.inr (.inl ())))
def F_dofferref17_Same (N : Nat)  (x2 : (List (List Int))) (x5 : (List Int)) (x8 : (List Int)) (x11 : (List (List Int))) (x14 : (List Int)) (x17 : (List Int)) : Option Bool :=
((if ((x2.length : Int) != (x11.length : Int)) = true then (
some true)
else (
F_doffernum_SameInts N x5 x14 >>= fun x159 =>
if (!x159) = true then (
some true)
else (
F_doffernum_SameInts N x8 x17 >>= fun x163 =>
some (!x163)))) : Option Bool) >>= fun x155 =>
if x155 = true then (
some false)
else (
((iterO N (fun s => F_dofferref17_Same_l0 N x2 x11 s) 0) : Option (Unit ⊕ Bool)) >>= fun z => match z with
| .inr z => some z
| .inl _ =>
some true)
def F_dofferlaw21_ProductBoth (N : Nat)  (x2 : (List (List Int))) (x5 : (List Int)) (x8 : (List Int)) (x11 : (List (List Int))) (x14 : (List Int)) (x17 : (List Int)) (x19 : Int) : Option Bool :=
F_dofferlaw21_alive N >>= fun x327 =>
if (!x327) = true then (
some false)
else (
F_dofferlaw17_Of N x2 x5 x8 9 >>= fun (x334, x335) =>
F_dofferlaw17_Of N x11 x14 x17 9 >>= fun (x345, x346) =>
((if (!x335) = true then (
some true)
else (
some (!x346))) : Option Bool) >>= fun x352 =>
if x352 = true then (
some true)
else (
F_product_Both N x2 x5 x8 x11 x14 x17 >>= fun (x363, x364, x365, x366) =>
F_product_Clash N x2 x5 x8 x11 x14 x17 x19 >>= fun z => match z with
| .inl _ => (
((F_dofferref17_Right N x334 x5 x8 >>= fun x394 =>
if (!x394) = true then (
some true)
else (
F_dofferref17_Right N x345 x14 x17 >>= fun x398 =>
some (!x398))) : Option Bool) >>= fun x390 =>
if x390 = true then (
((F_doffernum_Num N x366 >>= fun x409 =>
if (x409 == 4) = true then (
if ((x363.length : Int) == 0) = true then (
some ((([] : List Int).length : Int) == 0))
else (
some false))
else (
some false)) : Option Bool) >>= fun x405 =>
some x405)
else (
F_dofferref21_Both N x334 x5 x8 x345 x14 x17 >>= fun (x420, x421, x422, x423) =>
F_dofferref21_Way N x334 x5 x8 x345 x14 x17 x19 1 >>= fun (x435, _x436, _x437, x438) =>
((F_doffernum_Num N x366 >>= fun x451 =>
if (x451 != x423) = true then (
some true)
else (
if (false != x438) = true then (
some true)
else (
some ((bstr ([])).toList != (bstr x435).toList)))) : Option Bool) >>= fun x447 =>
if x447 = true then (
some false)
else (
F_dofferlaw17_Of N x363 x364 x365 200 >>= fun (x460, _x461) =>
((if (x423 != 0) = true then (
if ((x363.length : Int) == 0) = true then (
some true)
else (
if (x423 == 0) = true then (
F_dofferref17_Same N x460 x364 x365 x420 x421 x422 >>= fun x487 =>
if x487 = true then (
F_subset_Right N x363 x364 x365 >>= fun x491 =>
some x491)
else (
some false))
else (
some false)))
else (
if (x423 == 0) = true then (
F_dofferref17_Same N x460 x364 x365 x420 x421 x422 >>= fun x495 =>
if x495 = true then (
F_subset_Right N x363 x364 x365 >>= fun x499 =>
some x499)
else (
some false))
else (
some false))) : Option Bool) >>= fun x483 =>
some x483)))
| .inr x378 => (
((F_dofferref17_Right N x334 x5 x8 >>= fun x514 =>
if (!x514) = true then (
some true)
else (
F_dofferref17_Right N x345 x14 x17 >>= fun x518 =>
some (!x518))) : Option Bool) >>= fun x510 =>
if x510 = true then (
((F_doffernum_Num N x366 >>= fun x528 =>
if (x528 == 4) = true then (
if ((x363.length : Int) == 0) = true then (
some ())
else (
some ()))
else (
some ())) : Option Unit) >>= fun _ =>
some false)
else (
F_dofferref21_Both N x334 x5 x8 x345 x14 x17 >>= fun (x539, x540, x541, x542) =>
F_dofferref21_Way N x334 x5 x8 x345 x14 x17 x19 1 >>= fun (x554, _x555, _x556, x557) =>
((F_doffernum_Num N x366 >>= fun x570 =>
if (x570 != x542) = true then (
some true)
else (
if (true != x557) = true then (
some true)
else (
some ((bstr x378).toList != (bstr x554).toList)))) : Option Bool) >>= fun x566 =>
if x566 = true then (
some false)
else (
F_dofferlaw17_Of N x363 x364 x365 200 >>= fun (x579, _x580) =>
((if (x542 != 0) = true then (
if ((x363.length : Int) == 0) = true then (
some true)
else (
if (x542 == 0) = true then (
F_dofferref17_Same N x579 x364 x365 x539 x540 x541 >>= fun x606 =>
if x606 = true then (
F_subset_Right N x363 x364 x365 >>= fun x610 =>
some x610)
else (
some false))
else (
some false)))
else (
if (x542 == 0) = true then (
F_dofferref17_Same N x579 x364 x365 x539 x540 x541 >>= fun x614 =>
if x614 = true then (
F_subset_Right N x363 x364 x365 >>= fun x618 =>
some x618)
else (
some false))
else (
some false))) : Option Bool) >>= fun x602 =>
some x602)))))
end Go.Proofs.YtealkahefalaeaaGreatDoor
