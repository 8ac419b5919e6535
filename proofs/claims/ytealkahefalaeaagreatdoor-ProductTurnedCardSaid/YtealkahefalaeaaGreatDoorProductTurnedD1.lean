/-
  The pure functions, printed by my program: what each function of the code computes.
-/
import Derived.Test.YtealkahefalaeaaGreatDoorProductTurnedE3
namespace Go.Proofs.YtealkahefalaeaaGreatDoor
open Go Go.Eng
set_option maxRecDepth 100000
def md1r : List (List Int) := [List.replicate 256 0, (List.replicate 256 0).set 98 (2 : Int), List.replicate 256 0]
def md1l : List Int := [-1, -1, 0]
def md1m : List Int := [1]
def md0r : List (List Int) := [List.replicate 256 0, (List.replicate 256 0).set 97 (2 : Int), List.replicate 256 0]
def md0l : List Int := [-1, -1, 0]
def md0m : List Int := [1]
def tab_math_bits_deBruijn64tab : List Int := [0, 1, 56, 2, 57, 49, 28, 3, 61, 58, 42, 50, 38, 29, 17, 4, 62, 47, 59, 36, 45, 43, 51, 22, 53, 39, 33, 30, 24, 18, 12, 5, 63, 55, 48, 27, 60, 41, 37, 16, 46, 35, 44, 21, 52, 32, 23, 11, 54, 26, 40, 15, 34, 20, 31, 10, 25, 14, 19, 9, 13, 8, 7, 6]
def errIds : List Nat := [0, 1, 2, 3, 4, 5, 6, 7, 8, 12, 14]
def F_subset_Right_1 (_N : Nat)  (x1 : Int) (x3 : Int) : Option Bool :=
((if (decide (x1 < 0)) = true then (
some true)
else (
some (decide (x1 ≥ x3)))) : Option Bool) >>= fun x8 =>
some x8
def F_slices_IndexFunc_int_int_l0 (N : Nat) (x2 : (List Int)) (x5 : Int) (x142 : Int) : Option (Int ⊕ (Unit ⊕ Int)) :=
if (decide (x142 < (x2.length : Int))) = true then (
idx x2 x142 >>= fun x159 =>
F_subset_Right_1 N x159 x5 >>= fun x168 =>
if x168 = true then (
some (.inr (.inr x142)))
else (
some (.inl (w64 (x142 + 1)))))
else (
some (.inr (.inl ())))
def F_slices_IndexFunc_int_int (N : Nat)  (x2 : (List Int)) (x5 : Int) : Option Int :=
((iterO N (fun s => F_slices_IndexFunc_int_int_l0 N x2 x5 s) 0) : Option (Unit ⊕ Int)) >>= fun z => match z with
| .inr z => some z
| .inl _ =>
some (-1)
def F_slices_ContainsFunc_int_int (N : Nat)  (x2 : (List Int)) (x5 : Int) : Option Bool :=
F_slices_IndexFunc_int_int N x2 x5 >>= fun x13 =>
some (decide (x13 ≥ 0))
def F_subset_Right_2 (_N : Nat)  (x1 : Int) : Option Bool :=
((if (decide (x1 < (-1))) = true then (
some true)
else (
some (decide (x1 ≥ 48)))) : Option Bool) >>= fun x6 =>
some x6
def F_slices_IndexFunc_int_int_1_l0 (N : Nat) (x2 : (List Int)) (x140 : Int) : Option (Int ⊕ (Unit ⊕ Int)) :=
if (decide (x140 < (x2.length : Int))) = true then (
idx x2 x140 >>= fun x157 =>
F_subset_Right_2 N x157 >>= fun x166 =>
if x166 = true then (
some (.inr (.inr x140)))
else (
some (.inl (w64 (x140 + 1)))))
else (
some (.inr (.inl ())))
def F_slices_IndexFunc_int_int_1 (N : Nat)  (x2 : (List Int)) : Option Int :=
((iterO N (fun s => F_slices_IndexFunc_int_int_1_l0 N x2 s) 0) : Option (Unit ⊕ Int)) >>= fun z => match z with
| .inr z => some z
| .inl _ =>
some (-1)
def F_slices_ContainsFunc_int_int_1 (N : Nat)  (x2 : (List Int)) : Option Bool :=
F_slices_IndexFunc_int_int_1 N x2 >>= fun x11 =>
some (decide (x11 ≥ 0))
def F_subset_Right_l0 (N : Nat) (x2 : (List (List Int))) (x242 : Int) : Option (Int ⊕ (Unit ⊕ Bool)) :=
if (decide (x242 < (x2.length : Int))) = true then (
idx x2 x242 >>= fun x262 =>
F_slices_ContainsFunc_int_int N x262 (x2.length : Int) >>= fun x274 =>
if x274 = true then (
some (.inr (.inr false)))
else (
some (.inl (w64 (x242 + 1)))))
else (
some (.inr (.inl ())))
def F_subset_Right (N : Nat)  (x2 : (List (List Int))) (x5 : (List Int)) (x8 : (List Int)) : Option Bool :=
((if (decide ((x2.length : Int) < 1)) = true then (
some true)
else (
if (decide ((x2.length : Int) > 200)) = true then (
some true)
else (
if ((x5.length : Int) != (x2.length : Int)) = true then (
some true)
else (
if (decide ((x8.length : Int) < 1)) = true then (
some true)
else (
some (decide ((x8.length : Int) > 8))))))) : Option Bool) >>= fun x174 =>
if x174 = true then (
some false)
else (
((iterO N (fun s => F_subset_Right_l0 N x2 s) 0) : Option (Unit ⊕ Bool)) >>= fun z => match z with
| .inr z => some z
| .inl _ =>
((F_slices_ContainsFunc_int_int_1 N x5 >>= fun x289 =>
if x289 = true then (
some true)
else (
F_slices_ContainsFunc_int_int N x8 (x2.length : Int) >>= fun x293 =>
some x293)) : Option Bool) >>= fun x285 =>
if x285 = true then (
some false)
else (
((idx x2 0 >>= fun x312 =>
if (x312 == (List.replicate 256 0)) = true then (
idx x5 0 >>= fun x319 =>
some (x319 == (-1)))
else (
some false)) : Option Bool) >>= fun x310 =>
some x310))
def F_product_two_right (N : Nat)  (x2 : (List (List Int))) (x5 : (List Int)) (x8 : (List Int)) (x11 : (List (List Int))) (x14 : (List Int)) (x17 : (List Int)) : Option Bool :=
((F_subset_Right N x2 x5 x8 >>= fun x55 =>
if x55 = true then (
F_subset_Right N x11 x14 x17 >>= fun x59 =>
some x59)
else (
some false)) : Option Bool) >>= fun x51 =>
some x51
def F_product_entry (_N : Nat)  (_x2 : (List (List Int))) (_x5 : (List Int)) (x8 : (List Int)) (x10 : Int) : Option Int :=
((if (decide (x10 < 0)) = true then (
some true)
else (
some (decide (x10 ≥ (x8.length : Int))))) : Option Bool) >>= fun x26 =>
if x26 = true then (
some 0)
else (
idx x8 x10 >>= fun x29 =>
some x29)
def F_product_two_begin (N : Nat)  (x2 : (List (List Int))) (x5 : (List Int)) (x8 : (List Int)) (x11 : (List (List Int))) (x14 : (List Int)) (x17 : (List Int)) (x19 : Int) : Option (Int × Int) :=
((F_product_entry N x2 x5 x8 x19 >>= fun x66 =>
F_product_entry N x11 x14 x17 x19 >>= fun x70 =>
some (x66, x70)) : Option (Int × Int)) >>= fun (x61, x62) =>
some (x61, x62)
def F_product_two_rules (_N : Nat)  (_x2 : (List (List Int))) (x5 : (List Int)) (_x8 : (List Int)) (_x11 : (List (List Int))) (x14 : (List Int)) (_x17 : (List Int)) (x19 : Int) (x20 : Int) : Option (Int × Int) :=
idx x5 x19 >>= fun x45 =>
idx x14 x20 >>= fun x52 =>
some (x45, x52)
def F_product_Differ_1 (_N : Nat)  (_x1 : Int) (_x2 : Int) : Option Unit :=
some ()
def F_product_two_next (_N : Nat)  (x2 : (List (List Int))) (_x5 : (List Int)) (_x8 : (List Int)) (x11 : (List (List Int))) (_x14 : (List Int)) (_x17 : (List Int)) (x19 : Int) (x20 : Int) (x21 : Int) : Option (Int × Int) :=
((idx x2 x19 >>= fun x118 =>
idx x118 x21 >>= fun x125 =>
idx x11 x20 >>= fun x130 =>
idx x130 x21 >>= fun x137 =>
some (x125, x137)) : Option (Int × Int)) >>= fun (x115, x116) =>
some (x115, x116)
def F_clone_139 (_N : Nat) (x : (List Int)) : Option (List Int) := app [] x
def F_product_two_find_l1 (N : Nat) (x2 : (List (List Int))) (x5 : (List Int)) (x8 : (List Int)) (x11 : (List (List Int))) (x14 : (List Int)) (x17 : (List Int)) (x35753 : ((Int × Int) × (List Int))) (x37918 : (List ((Int × Int) × (List Int)))) (x37920 : Int) (x37921 : (List ((Int × Int) × Int))) : Option (((List ((Int × Int) × (List Int))) × Int × (List ((Int × Int) × Int))) ⊕ ((List ((Int × Int) × (List Int))) × (List ((Int × Int) × Int)))) :=
if (decide (x37920 < 256)) = true then (
((F_product_two_next N x2 x5 x8 x11 x14 x17 x35753.1.1 x35753.1.2 x37920 >>= fun (x38723, x38724) =>
((if (((mget x37921 (x38723, x38724)).getD 0) == 0) = true then (
((some ()) : Option Unit) >>= fun _ =>
((F_clone_139 N x35753.2 >>= fun x38929 =>
app x38929 ([IntKind.wrap .u8 x37920]) >>= fun x38934 =>
app x37918 ([((x38723, x38724), x38934)]) >>= fun x38944 =>
some x38944) : Option (List ((Int × Int) × (List Int)))) >>= fun x38922 =>
some (x38922, (mset (mset x37921 (x38723, x38724) ((mget x37921 (x38723, x38724)).getD 0)) (x38723, x38724) (w64 (((mget x37921 (x38723, x38724)).getD 0) + 1)))))
else (
some (x37918, x37921))) : Option ((List ((Int × Int) × (List Int))) × (List ((Int × Int) × Int)))) >>= fun (x38852, x38854) =>
some (x38852, x38854)) : Option ((List ((Int × Int) × (List Int))) × (List ((Int × Int) × Int)))) >>= fun (x38717, x38719) =>
some (.inl (x38717, w64 (x37920 + 1), x38719)))
else (
some (.inr (x37918, x37921)))
def F_product_two_find_l0 (N : Nat) (x2 : (List (List Int))) (x5 : (List Int)) (x8 : (List Int)) (x11 : (List (List Int))) (x14 : (List Int)) (x17 : (List Int)) (x32503 : (List ((Int × Int) × (List Int)))) (x32505 : (List ((Int × Int) × Int))) : Option (((List ((Int × Int) × (List Int))) × (List ((Int × Int) × Int))) ⊕ (Unit ⊕ ((Int × Int × (List Int)) ⊕ Unit))) :=
if (decide ((x32503.length : Int) > 0)) = true then (
idx x32503 0 >>= fun x35753 =>
F_product_two_rules N x2 x5 x8 x11 x14 x17 x35753.1.1 x35753.1.2 >>= fun (x35778, x35779) =>
F_product_Differ_1 N x35778 x35779 >>= fun _ =>
if (x35778 != x35779) = true then (
some (.inr (.inr (.inl (x35753.1.1, x35753.1.2, x35753.2)))))
else (
((iterO N (fun s => F_product_two_find_l1 N x2 x5 x8 x11 x14 x17 x35753 s.1 s.2.1 s.2.2) (x32503, 0, x32505)) : Option ((List ((Int × Int) × (List Int))) × (List ((Int × Int) × Int)))) >>= fun (x37382, x37384) =>
slc x37382 1 (x37382.length : Int) >>= fun x38983 =>
some (.inl (x38983, x37384))))
else (
some (.inr (.inl ())))
def F_product_two_find (N : Nat)  (x2 : (List (List Int))) (x5 : (List Int)) (x8 : (List Int)) (x11 : (List (List Int))) (x14 : (List Int)) (x17 : (List Int)) (x19 : Int) : Option ((Int × Int × (List Int)) ⊕ Unit) :=
F_product_two_begin N x2 x5 x8 x11 x14 x17 x19 >>= fun (x19516, x19517) =>
((iterO N (fun s => F_product_two_find_l0 N x2 x5 x8 x11 x14 x17 s.1 s.2) ([((x19516, x19517), [])], (mset ([] : List ((Int × Int) × Int)) (x19516, x19517) 1))) : Option (Unit ⊕ ((Int × Int × (List Int)) ⊕ Unit))) >>= fun z => match z with
| .inr z => some z
| .inl _ =>
some (.inr ())
def F_product_Differ_l0 (N : Nat) (x2 : (List (List Int))) (x5 : (List Int)) (x8 : (List Int)) (x11 : (List (List Int))) (x14 : (List Int)) (x17 : (List Int)) (x303 : Int) : Option (Int ⊕ (Unit ⊕ (Unit ⊕ (Int × (List Int) × Int × Int)))) :=
if (decide (x303 < (imax (x8.length : Int) (x17.length : Int)))) = true then (
F_product_two_find N x2 x5 x8 x11 x14 x17 x303 >>= fun z => match z with
| .inl (x335, x336, x337) => (
F_product_two_rules N x2 x5 x8 x11 x14 x17 x335 x336 >>= fun (x347, x348) =>
some (.inr (.inr (.inr (x303, x337, x347, x348)))))
| .inr _ => (
some (.inl (w64 (x303 + 1)))))
else (
some (.inr (.inl ())))
def F_product_Differ (N : Nat)  (x2 : (List (List Int))) (x5 : (List Int)) (x8 : (List Int)) (x11 : (List (List Int))) (x14 : (List Int)) (x17 : (List Int)) : Option (Unit ⊕ (Int × (List Int) × Int × Int)) :=
F_product_two_right N x2 x5 x8 x11 x14 x17 >>= fun x202 =>
if (!x202) = true then (
some (.inl ()))
else (
((iterO N (fun s => F_product_Differ_l0 N x2 x5 x8 x11 x14 x17 s) 0) : Option (Unit ⊕ (Unit ⊕ (Int × (List Int) × Int × Int)))) >>= fun z => match z with
| .inr z => some z
| .inl _ =>
some (.inl ()))
def F_dofferlaw21_alive (N : Nat)  : Option Bool :=
F_product_Differ N md0r md0l md0m md1r md1l md1m >>= fun z => match z with
| .inl _ => (
((some ()) : Option Unit) >>= fun _ =>
some false)
| .inr (x62, x63, x64, x65) => (
((if (x62 == 0) = true then (
if ((bstr x63).toList == (⟨#[97]⟩ : ByteArray).toList) = true then (
if (x64 == 0) = true then (
some (x65 == (-1)))
else (
some false))
else (
some false))
else (
some false)) : Option Bool) >>= fun x78 =>
some x78)
def F_product_joiner_state (N : Nat)  (x3 : (List (List Int))) (x6 : (List Int)) (x9 : (List Int)) (x12 : (List (List Int))) (x15 : (List Int)) (x18 : (List Int)) (_x21 : (List (List Int))) (x25 : (List Int)) (_x29 : (List Int)) (x33 : (List ((Int × Int) × Int))) (x35 : (List (Int × Int))) (x38 : Int) (x39 : Int) : Option ((List Int) × (List ((Int × Int) × Int)) × (List (Int × Int)) × Int) :=
((if (x38 == 0) = true then (
some true)
else (
some (x39 == 0))) : Option Bool) >>= fun x108 =>
((if x108 = true then (
some (0, 0))
else (
some (x38, x39))) : Option (Int × Int)) >>= fun (x112, x113) =>
if ((mget x33 (x112, x113)).isSome) = true then (
some (x25, x33, x35, (mget x33 (x112, x113)).getD 0))
else (
((some ()) : Option Unit) >>= fun _ =>
((app x35 ([(x112, x113)]) >>= fun x137 =>
some x137) : Option (List (Int × Int))) >>= fun x132 =>
F_product_two_rules N x3 x6 x9 x12 x15 x18 x112 x113 >>= fun (x147, x148) =>
((if (x148 == (-1)) = true then (
some (-1))
else (
some x147)) : Option Int) >>= fun x150 =>
app x25 ([x150]) >>= fun x155 =>
some (x155, (mset x33 (x112, x113) (x35.length : Int)), x132, (x35.length : Int)))
def F_product_Both_l0 (N : Nat) (x2 : (List (List Int))) (x5 : (List Int)) (x8 : (List Int)) (x11 : (List (List Int))) (x14 : (List Int)) (x17 : (List Int)) (x11637 : Int) (x11640 : (List Int)) (x11644 : (List Int)) (x11646 : (List ((Int × Int) × Int))) (x11649 : (List (Int × Int))) : Option ((Int × (List Int) × (List Int) × (List ((Int × Int) × Int)) × (List (Int × Int))) ⊕ ((List Int) × (List Int) × (List ((Int × Int) × Int)) × (List (Int × Int)))) :=
if (decide (x11637 < (x8.length : Int))) = true then (
((F_product_two_begin N x2 x5 x8 x11 x14 x17 x11637 >>= fun (x12036, x12037) =>
F_product_joiner_state N x2 x5 x8 x11 x14 x17 ([]) x11640 x11644 x11646 x11649 x12036 x12037 >>= fun (x12045, x12046, x12047, x12048) =>
app x11644 ([x12048]) >>= fun x12054 =>
some (x12045, x12054, x12046, x12047)) : Option ((List Int) × (List Int) × (List ((Int × Int) × Int)) × (List (Int × Int)))) >>= fun (x12022, x12026, x12028, x12031) =>
some (.inl (w64 (x11637 + 1), x12022, x12026, x12028, x12031)))
else (
some (.inr (x11640, x11644, x11646, x11649)))
def F_product_Both_l2 (N : Nat) (x2 : (List (List Int))) (x5 : (List Int)) (x8 : (List Int)) (x11 : (List (List Int))) (x14 : (List Int)) (x17 : (List Int)) (x11376 : (List Int)) (x18124 : (List (List Int))) (x18135 : Int) (x20599 : (List Int)) (x20601 : (List ((Int × Int) × Int))) (x20604 : (List (Int × Int))) (x20606 : Int) (x20608 : (List Int)) : Option (((List Int) × (List ((Int × Int) × Int)) × (List (Int × Int)) × Int × (List Int)) ⊕ ((List Int) × (List ((Int × Int) × Int)) × (List (Int × Int)) × (List Int))) :=
if (decide (x20606 < 256)) = true then (
((idx x20604 x18135 >>= fun x20970 =>
F_product_two_next N x2 x5 x8 x11 x14 x17 x20970.1 x20970.2 x20606 >>= fun (x20984, x20985) =>
F_product_joiner_state N x2 x5 x8 x11 x14 x17 x18124 x20599 x11376 x20601 x20604 x20984 x20985 >>= fun (x20993, x20994, x20995, x20996) =>
idx x20608 x20606 >>= fun _x21000 =>
setI x20608 x20606 x20996 >>= fun x21003 =>
some (x20993, x20994, x20995, x21003)) : Option ((List Int) × (List ((Int × Int) × Int)) × (List (Int × Int)) × (List Int))) >>= fun (x20958, x20960, x20963, x20966) =>
some (.inl (x20958, x20960, x20963, w64 (x20606 + 1), x20966)))
else (
some (.inr (x20599, x20601, x20604, x20608)))
def F_product_Both_l1 (N : Nat) (x2 : (List (List Int))) (x5 : (List Int)) (x8 : (List Int)) (x11 : (List (List Int))) (x14 : (List Int)) (x17 : (List Int)) (x11376 : (List Int)) (x18124 : (List (List Int))) (x18128 : (List Int)) (x18130 : (List ((Int × Int) × Int))) (x18133 : (List (Int × Int))) (x18135 : Int) : Option (((List (List Int)) × (List Int) × (List ((Int × Int) × Int)) × (List (Int × Int)) × Int) ⊕ (((List (List Int)) × (List Int) × (List ((Int × Int) × Int)) × (List (Int × Int))) ⊕ ((List (List Int)) × (List Int) × (List Int) × Int))) :=
if (decide (x18135 < (x18133.length : Int))) = true then (
((iterO N (fun s => F_product_Both_l2 N x2 x5 x8 x11 x14 x17 x11376 x18124 x18135 s.1 s.2.1 s.2.2.1 s.2.2.2.1 s.2.2.2.2) (x18128, x18130, x18133, 0, (List.replicate 256 0))) : Option ((List Int) × (List ((Int × Int) × Int)) × (List (Int × Int)) × (List Int))) >>= fun (x20348, x20350, x20353, x20356) =>
if (decide ((x20353.length : Int) > 200)) = true then (
((some ()) : Option Unit) >>= fun _ =>
some (.inr (.inr ([], [], [], 9))))
else (
((app x18124 ([x20356]) >>= fun x21096 =>
some x21096) : Option (List (List Int))) >>= fun x21091 =>
some (.inl (x21091, x20348, x20350, x20353, w64 (x18135 + 1)))))
else (
some (.inr (.inl (x18124, x18128, x18130, x18133))))
def F_product_Both (N : Nat)  (x2 : (List (List Int))) (x5 : (List Int)) (x8 : (List Int)) (x11 : (List (List Int))) (x14 : (List Int)) (x17 : (List Int)) : Option ((List (List Int)) × (List Int) × (List Int) × Int) :=
((F_product_two_right N x2 x5 x8 x11 x14 x17 >>= fun x10587 =>
if (!x10587) = true then (
some true)
else (
some ((x8.length : Int) != (x17.length : Int)))) : Option Bool) >>= fun x10583 =>
if x10583 = true then (
((some ()) : Option Unit) >>= fun _ =>
some ([], [], [], 2))
else (
F_product_joiner_state N x2 x5 x8 x11 x14 x17 ([]) ([]) ([]) ([] : List ((Int × Int) × Int)) ([]) 0 0 >>= fun (x10600, x10601, x10602, _x10603) =>
((iterO N (fun s => F_product_Both_l0 N x2 x5 x8 x11 x14 x17 s.1 s.2.1 s.2.2.1 s.2.2.2.1 s.2.2.2.2) (0, x10600, ([]), x10601, x10602)) : Option ((List Int) × (List Int) × (List ((Int × Int) × Int)) × (List (Int × Int)))) >>= fun (x11372, x11376, x11378, x11381) =>
((iterO N (fun s => F_product_Both_l1 N x2 x5 x8 x11 x14 x17 x11376 s.1 s.2.1 s.2.2.1 s.2.2.2.1 s.2.2.2.2) (([]), x11372, x11378, x11381, 0)) : Option (((List (List Int)) × (List Int) × (List ((Int × Int) × Int)) × (List (Int × Int))) ⊕ ((List (List Int)) × (List Int) × (List Int) × Int))) >>= fun z => match z with
| .inr z => some z
| .inl (x16621, x16625, _x16627, _x16630) =>
some (x16621, x16625, x11376, 0))
def F_subset_DFA_begin (_N : Nat)  (_x2 : (List (List Int))) (_x5 : (List Int)) (x8 : (List Int)) (x10 : Int) : Option Int :=
((if (decide (x10 < 0)) = true then (
some true)
else (
some (decide (x10 ≥ (x8.length : Int))))) : Option Bool) >>= fun x26 =>
if x26 = true then (
some 0)
else (
idx x8 x10 >>= fun x29 =>
some x29)
def F_subset_DFA_next (_N : Nat)  (x2 : (List (List Int))) (_x5 : (List Int)) (_x8 : (List Int)) (x10 : Int) (x11 : Int) : Option Int :=
((if (decide (x10 < 0)) = true then (
some true)
else (
some (decide (x10 ≥ (x2.length : Int))))) : Option Bool) >>= fun x32 =>
if x32 = true then (
some 0)
else (
idx x2 x10 >>= fun x35 =>
idx x35 x11 >>= fun x42 =>
some x42)
def F_subset_DFA_Run_l0 (N : Nat) (x2 : (List (List Int))) (x5 : (List Int)) (x8 : (List Int)) (x12 : (List Int)) (x189 : Int) (x190 : Int) : Option ((Int × Int) ⊕ Int) :=
if (decide (x189 < (x12.length : Int))) = true then (
idx x12 x189 >>= fun x208 =>
F_subset_DFA_next N x2 x5 x8 x190 x208 >>= fun x217 =>
some (.inl (w64 (x189 + 1), x217)))
else (
some (.inr x190))
def F_subset_DFA_Run (N : Nat)  (x2 : (List (List Int))) (x5 : (List Int)) (x8 : (List Int)) (x10 : Int) (x12 : (List Int)) : Option Int :=
F_subset_Right N x2 x5 x8 >>= fun x125 =>
if (!x125) = true then (
some (-1))
else (
F_subset_DFA_begin N x2 x5 x8 x10 >>= fun x129 =>
((iterO N (fun s => F_subset_DFA_Run_l0 N x2 x5 x8 x12 s.1 s.2) (0, x129)) : Option Int) >>= fun x174 =>
idx x5 x174 >>= fun x220 =>
some x220)
def F_dofferlaw21_ProductTurned_l0 (N : Nat) (x2 : (List (List Int))) (x5 : (List Int)) (x8 : (List Int)) (x11 : (List (List Int))) (x14 : (List Int)) (x17 : (List Int)) (x20 : (List Int)) (x1121 : (List (List Int))) (x1122 : (List Int)) (x1123 : (List Int)) (x1272 : Int) : Option (Int ⊕ (Unit ⊕ Bool)) :=
if (decide (x1272 < (x8.length : Int))) = true then (
((F_subset_DFA_Run N x2 x5 x8 x1272 x20 >>= fun x1328 =>
F_subset_DFA_Run N x11 x14 x17 x1272 x20 >>= fun x1332 =>
((if (decide (x1332 < 0)) = true then (
some (-1))
else (
some x1328)) : Option Int) >>= fun x1334 =>
F_subset_DFA_Run N x1121 x1122 x1123 x1272 x20 >>= fun x1339 =>
if (x1339 != x1334) = true then (
some (.inr (.inr (.inr false))))
else (
some (.inl ()))) : Option (Unit ⊕ (Int ⊕ (Unit ⊕ Bool)))) >>= fun z => match z with
| .inr z => some z
| .inl _ =>
some (.inl (w64 (x1272 + 1))))
else (
some (.inr (.inl ())))
def F_dofferlaw21_ProductTurned_l1 (N : Nat) (x2 : (List (List Int))) (x5 : (List Int)) (x8 : (List Int)) (x11 : (List (List Int))) (x14 : (List Int)) (x17 : (List Int)) (x20 : (List Int)) (x1361 : (List (List Int))) (x1362 : (List Int)) (x1363 : (List Int)) (x1512 : Int) : Option (Int ⊕ (Unit ⊕ Bool)) :=
if (decide (x1512 < (x8.length : Int))) = true then (
((F_subset_DFA_Run N x2 x5 x8 x1512 x20 >>= fun x1568 =>
F_subset_DFA_Run N x11 x14 x17 x1512 x20 >>= fun x1572 =>
((if (decide (x1572 < 0)) = true then (
some (-1))
else (
some x1568)) : Option Int) >>= fun x1574 =>
F_subset_DFA_Run N x1361 x1362 x1363 x1512 x20 >>= fun x1579 =>
if (x1579 != x1574) = true then (
some (.inr (.inr (.inr false))))
else (
some (.inl ()))) : Option (Unit ⊕ (Int ⊕ (Unit ⊕ Bool)))) >>= fun z => match z with
| .inr z => some z
| .inl _ =>
some (.inl (w64 (x1512 + 1))))
else (
some (.inr (.inl ())))
def F_dofferlaw21_ProductTurned_l2 (N : Nat) (x2 : (List (List Int))) (x5 : (List Int)) (x8 : (List Int)) (x11 : (List (List Int))) (x14 : (List Int)) (x17 : (List Int)) (x20 : (List Int)) (x1615 : (List (List Int))) (x1616 : (List Int)) (x1617 : (List Int)) (x1766 : Int) : Option (Int ⊕ (Unit ⊕ Bool)) :=
if (decide (x1766 < (x8.length : Int))) = true then (
((F_subset_DFA_Run N x2 x5 x8 x1766 x20 >>= fun x1822 =>
F_subset_DFA_Run N x11 x14 x17 x1766 x20 >>= fun x1826 =>
((if (decide (x1826 < 0)) = true then (
some (-1))
else (
some x1822)) : Option Int) >>= fun x1828 =>
F_subset_DFA_Run N x1615 x1616 x1617 x1766 x20 >>= fun x1833 =>
if (x1833 != x1828) = true then (
some (.inr (.inr (.inr false))))
else (
some (.inl ()))) : Option (Unit ⊕ (Int ⊕ (Unit ⊕ Bool)))) >>= fun z => match z with
| .inr z => some z
| .inl _ =>
some (.inl (w64 (x1766 + 1))))
else (
some (.inr (.inl ())))
def F_dofferlaw21_ProductTurned_l3 (N : Nat) (x2 : (List (List Int))) (x5 : (List Int)) (x8 : (List Int)) (x11 : (List (List Int))) (x14 : (List Int)) (x17 : (List Int)) (x20 : (List Int)) (x1855 : (List (List Int))) (x1856 : (List Int)) (x1857 : (List Int)) (x2006 : Int) : Option (Int ⊕ (Unit ⊕ Bool)) :=
if (decide (x2006 < (x8.length : Int))) = true then (
((F_subset_DFA_Run N x2 x5 x8 x2006 x20 >>= fun x2062 =>
F_subset_DFA_Run N x11 x14 x17 x2006 x20 >>= fun x2066 =>
((if (decide (x2066 < 0)) = true then (
some (-1))
else (
some x2062)) : Option Int) >>= fun x2068 =>
F_subset_DFA_Run N x1855 x1856 x1857 x2006 x20 >>= fun x2073 =>
if (x2073 != x2068) = true then (
some (.inr (.inr (.inr false))))
else (
some (.inl ()))) : Option (Unit ⊕ (Int ⊕ (Unit ⊕ Bool)))) >>= fun z => match z with
| .inr z => some z
| .inl _ =>
some (.inl (w64 (x2006 + 1))))
else (
some (.inr (.inl ())))
def F_dofferlaw21_ProductTurned (N : Nat)  (x2 : (List (List Int))) (x5 : (List Int)) (x8 : (List Int)) (x11 : (List (List Int))) (x14 : (List Int)) (x17 : (List Int)) (x20 : (List Int)) : Option Bool :=
F_dofferlaw21_alive N >>= fun x1056 =>
if (!x1056) = true then (
some false)
else (
((if (decide ((x2.length : Int) > 10)) = true then (
some true)
else (
if (decide ((x11.length : Int) > 10)) = true then (
some true)
else (
if (decide ((x20.length : Int) > 40)) = true then (
some true)
else (
F_subset_Right N x2 x5 x8 >>= fun x1071 =>
if (!x1071) = true then (
some true)
else (
F_subset_Right N x11 x14 x17 >>= fun x1075 =>
some (!x1075)))))) : Option Bool) >>= fun x1067 =>
if x1067 = true then (
some true)
else (
F_product_Differ N x2 x5 x8 x11 x14 x17 >>= fun z => match z with
| .inl _ => (
F_product_Differ N x11 x14 x17 x2 x5 x8 >>= fun z => match z with
| .inl _ => (
((if (false != false) = true then (
some true)
else (
if ((bstr ([])).toList != (bstr ([])).toList) = true then (
some true)
else (
some false))) : Option Bool) >>= fun x1108 =>
if x1108 = true then (
some false)
else (
F_product_Both N x2 x5 x8 x11 x14 x17 >>= fun (x1121, x1122, x1123, x1124) =>
((if (eOk errIds x1124) = true then (
some true)
else (
some ((x8.length : Int) != (x17.length : Int)))) : Option Bool) >>= fun x1132 =>
if x1132 = true then (
some ((x1121.length : Int) == 0))
else (
((iterO N (fun s => F_dofferlaw21_ProductTurned_l0 N x2 x5 x8 x11 x14 x17 x20 x1121 x1122 x1123 s) 0) : Option (Unit ⊕ Bool)) >>= fun z => match z with
| .inr z => some z
| .inl _ =>
some true)))
| .inr (x1096, x1097, x1098, x1099) => (
((if (false != true) = true then (
some true)
else (
if (0 != x1096) = true then (
some true)
else (
if ((bstr ([])).toList != (bstr x1097).toList) = true then (
some true)
else (
if (0 != x1099) = true then (
some true)
else (
some (0 != x1098)))))) : Option Bool) >>= fun x1348 =>
if x1348 = true then (
some false)
else (
F_product_Both N x2 x5 x8 x11 x14 x17 >>= fun (x1361, x1362, x1363, x1364) =>
((if (eOk errIds x1364) = true then (
some true)
else (
some ((x8.length : Int) != (x17.length : Int)))) : Option Bool) >>= fun x1372 =>
if x1372 = true then (
some ((x1361.length : Int) == 0))
else (
((iterO N (fun s => F_dofferlaw21_ProductTurned_l1 N x2 x5 x8 x11 x14 x17 x20 x1361 x1362 x1363 s) 0) : Option (Unit ⊕ Bool)) >>= fun z => match z with
| .inr z => some z
| .inl _ =>
some true))))
| .inr (x1082, x1083, x1084, x1085) => (
F_product_Differ N x11 x14 x17 x2 x5 x8 >>= fun z => match z with
| .inl _ => (
((if (true != false) = true then (
some true)
else (
if (x1082 != 0) = true then (
some true)
else (
if ((bstr x1083).toList != (bstr ([])).toList) = true then (
some true)
else (
if (x1084 != 0) = true then (
some true)
else (
some (x1085 != 0)))))) : Option Bool) >>= fun x1602 =>
if x1602 = true then (
some false)
else (
F_product_Both N x2 x5 x8 x11 x14 x17 >>= fun (x1615, x1616, x1617, x1618) =>
((if (eOk errIds x1618) = true then (
some true)
else (
some ((x8.length : Int) != (x17.length : Int)))) : Option Bool) >>= fun x1626 =>
if x1626 = true then (
some ((x1615.length : Int) == 0))
else (
((iterO N (fun s => F_dofferlaw21_ProductTurned_l2 N x2 x5 x8 x11 x14 x17 x20 x1615 x1616 x1617 s) 0) : Option (Unit ⊕ Bool)) >>= fun z => match z with
| .inr z => some z
| .inl _ =>
some true)))
| .inr (x1590, x1591, x1592, x1593) => (
((if (true != true) = true then (
some true)
else (
if (x1082 != x1590) = true then (
some true)
else (
if ((bstr x1083).toList != (bstr x1591).toList) = true then (
some true)
else (
if (x1084 != x1593) = true then (
some true)
else (
some (x1085 != x1592)))))) : Option Bool) >>= fun x1842 =>
if x1842 = true then (
some false)
else (
F_product_Both N x2 x5 x8 x11 x14 x17 >>= fun (x1855, x1856, x1857, x1858) =>
((if (eOk errIds x1858) = true then (
some true)
else (
some ((x8.length : Int) != (x17.length : Int)))) : Option Bool) >>= fun x1866 =>
if x1866 = true then (
some ((x1855.length : Int) == 0))
else (
((iterO N (fun s => F_dofferlaw21_ProductTurned_l3 N x2 x5 x8 x11 x14 x17 x20 x1855 x1856 x1857 s) 0) : Option (Unit ⊕ Bool)) >>= fun z => match z with
| .inr z => some z
| .inl _ =>
some true))))))
end Go.Proofs.YtealkahefalaeaaGreatDoor
