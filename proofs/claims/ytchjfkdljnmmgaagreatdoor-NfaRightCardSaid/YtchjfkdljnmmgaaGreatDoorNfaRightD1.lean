/-
  The pure functions, printed by my program: what each function of the code computes.
-/
import Derived.Test.YtchjfkdljnmmgaaGreatDoorNfaRightE3
namespace Go.Proofs.YtchjfkdljnmmgaaGreatDoor
open Go Go.Eng
set_option maxRecDepth 100000
def F_nfa_Copy (_N : Nat) (x2 : (List ((List Int) × (Int × Int × Int × Int) × Int × Int))) (x5 : (List Int)) : Option Unit :=
if x2.length ≤ 4294967296 ∧ x5.length ≤ 4294967296 ∧ ∀ s ∈ x2, s.1.length ≤ 4294967296 then some () else none
def errIds : List Nat := [0, 1, 2, 3, 4, 5, 6, 7, 8, 12, 14]
def F_dofferlaw15_Of_l0 (_N : Nat) (x2 : (List ((List Int) × (Int × Int × Int × Int) × Int × Int))) (x639 : Int) (x642 : (List ((List Int) × (Int × Int × Int × Int) × Int × Int))) : Option ((Int × (List ((List Int) × (Int × Int × Int × Int) × Int × Int))) ⊕ ((List ((List Int) × (Int × Int × Int × Int) × Int × Int)) ⊕ ((List ((List Int) × (Int × Int × Int × Int) × Int × Int)) × Bool))) :=
if (decide (x639 < (x2.length : Int))) = true then (
idx x2 x639 >>= fun x706 =>
if (decide ((x706.1.length : Int) > 100)) = true then (
some (.inr (.inr (x642, false))))
else (
app x642 ([(x706.1, (x706.2.1.1, x706.2.1.2.1, x706.2.1.2.2.1, x706.2.1.2.2.2), x706.2.2.1, x706.2.2.2)]) >>= fun x752 =>
some (.inl (w64 (x639 + 1), x752))))
else (
some (.inr (.inl x642)))
def F_dofferlaw15_Of (N : Nat)  (x2 : (List ((List Int) × (Int × Int × Int × Int) × Int × Int))) (x5 : (List Int)) (x7 : Int) : Option ((List ((List Int) × (Int × Int × Int × Int) × Int × Int)) × Bool) :=
((if (decide ((x5.length : Int) > 20)) = true then (
some true)
else (
some (decide ((x2.length : Int) > x7)))) : Option Bool) >>= fun x394 =>
if x394 = true then (
some ([], false))
else (
((iterO N (fun s => F_dofferlaw15_Of_l0 N x2 s.1 s.2) (0, [])) : Option ((List ((List Int) × (Int × Int × Int × Int) × Int × Int)) ⊕ ((List ((List Int) × (Int × Int × Int × Int) × Int × Int)) × Bool))) >>= fun z => match z with
| .inr z => some z
| .inl x578 =>
some (x578, true))
def F_sets_Set_Empty (_N : Nat)  (_x1 : Int) (_x2 : Int) (_x3 : Int) (_x4 : Int) : Option Unit :=
some ()
def F_nfa_Right_1 (_N : Nat)  (x1 : Int) (x3 : Int) : Option Bool :=
((if (decide (x1 < 0)) = true then (
some true)
else (
some (decide (x1 ≥ x3)))) : Option Bool) >>= fun x8 =>
some x8
def F_slices_IndexFunc_int_int_2_l0 (N : Nat) (x2 : (List Int)) (x5 : Int) (x142 : Int) : Option (Int ⊕ (Unit ⊕ Int)) :=
if (decide (x142 < (x2.length : Int))) = true then (
idx x2 x142 >>= fun x159 =>
F_nfa_Right_1 N x159 x5 >>= fun x168 =>
if x168 = true then (
some (.inr (.inr x142)))
else (
some (.inl (w64 (x142 + 1)))))
else (
some (.inr (.inl ())))
def F_slices_IndexFunc_int_int_2 (N : Nat)  (x2 : (List Int)) (x5 : Int) : Option Int :=
((iterO N (fun s => F_slices_IndexFunc_int_int_2_l0 N x2 x5 s) 0) : Option (Unit ⊕ Int)) >>= fun z => match z with
| .inr z => some z
| .inl _ =>
some (-1)
def F_slices_ContainsFunc_int_int_2 (N : Nat)  (x2 : (List Int)) (x5 : Int) : Option Bool :=
F_slices_IndexFunc_int_int_2 N x2 x5 >>= fun x13 =>
some (decide (x13 ≥ 0))
def F_nfa_Right_l0 (N : Nat) (x2 : (List ((List Int) × (Int × Int × Int × Int) × Int × Int))) (x847 : Int) : Option (Int ⊕ (Unit ⊕ Bool)) :=
if (decide (x847 < (x2.length : Int))) = true then (
idx x2 x847 >>= fun x932 =>
((if (x932.2.2.1 == (-1)) = true then (
F_sets_Set_Empty N x932.2.1.1 x932.2.1.2.1 x932.2.1.2.2.1 x932.2.1.2.2.2 >>= fun _ =>
if (([x932.2.1.1, x932.2.1.2.1, x932.2.1.2.2.1, x932.2.1.2.2.2] : List Int) == ([0, 0, 0, 0] : List Int)) = true then (
some true)
else (
F_nfa_Right_1 N x932.2.2.1 (x2.length : Int) >>= fun x993 =>
some (!x993)))
else (
F_nfa_Right_1 N x932.2.2.1 (x2.length : Int) >>= fun x997 =>
some (!x997))) : Option Bool) >>= fun x986 =>
((if (!x986) = true then (
some true)
else (
F_slices_ContainsFunc_int_int_2 N x932.1 (x2.length : Int) >>= fun x1008 =>
if x1008 = true then (
some true)
else (
if (decide (x932.2.2.2 < (-1))) = true then (
some true)
else (
some (decide (x932.2.2.2 ≥ 48)))))) : Option Bool) >>= fun x1004 =>
if x1004 = true then (
some (.inr (.inr false)))
else (
some (.inl (w64 (x847 + 1)))))
else (
some (.inr (.inl ())))
def F_nfa_Right (N : Nat)  (x2 : (List ((List Int) × (Int × Int × Int × Int) × Int × Int))) (x5 : (List Int)) : Option Bool :=
((iterO N (fun s => F_nfa_Right_l0 N x2 s) 0) : Option (Unit ⊕ Bool)) >>= fun z => match z with
| .inr z => some z
| .inl _ =>
((if (decide ((x5.length : Int) ≥ 1)) = true then (
some (decide ((x5.length : Int) ≤ 8)))
else (
some false)) : Option Bool) >>= fun x1012 =>
((if x1012 = true then (
if (decide ((x2.length : Int) ≥ 1)) = true then (
if (decide ((x2.length : Int) ≤ 4000)) = true then (
F_slices_ContainsFunc_int_int_2 N x5 (x2.length : Int) >>= fun x1023 =>
some (!x1023))
else (
some false))
else (
some false))
else (
some false)) : Option Bool) >>= fun x1019 =>
some x1019
def F_dofferref15_Right_l0 (_N : Nat) (x2 : (List ((List Int) × (Int × Int × Int × Int) × Int × Int))) (x5 : (List Int)) (x891 : Int) : Option (Int ⊕ (Unit ⊕ Bool)) :=
if (decide (x891 < (x5.length : Int))) = true then (
idx x5 x891 >>= fun x907 =>
((if (decide (x907 < 0)) = true then (
some true)
else (
some (decide (x907 ≥ (x2.length : Int))))) : Option Bool) >>= fun x914 =>
if x914 = true then (
some (.inr (.inr false)))
else (
some (.inl (w64 (x891 + 1)))))
else (
some (.inr (.inl ())))
def F_dofferref15_Right_l2 (_N : Nat) (x2 : (List ((List Int) × (Int × Int × Int × Int) × Int × Int))) (x1543 : ((List Int) × (Int × Int × Int × Int) × Int × Int)) (x1638 : Int) : Option (Int ⊕ (Unit ⊕ (Int ⊕ (Unit ⊕ Bool)))) :=
if (decide (x1638 < (x1543.1.length : Int))) = true then (
idx x1543.1 x1638 >>= fun x1654 =>
((if (decide (x1654 < 0)) = true then (
some true)
else (
some (decide (x1654 ≥ (x2.length : Int))))) : Option Bool) >>= fun x1661 =>
if x1661 = true then (
some (.inr (.inr (.inr (.inr false)))))
else (
some (.inl (w64 (x1638 + 1)))))
else (
some (.inr (.inl ())))
def F_dofferref15_Right_l1 (N : Nat) (x2 : (List ((List Int) × (Int × Int × Int × Int) × Int × Int))) (x1415 : Int) : Option (Int ⊕ (Unit ⊕ Bool)) :=
if (decide (x1415 < (x2.length : Int))) = true then (
idx x2 x1415 >>= fun x1543 =>
((if (decide (x1543.2.2.1 < (-1))) = true then (
some true)
else (
if (decide (x1543.2.2.1 ≥ (x2.length : Int))) = true then (
some true)
else (
if (decide (x1543.2.2.2 < (-1))) = true then (
some true)
else (
if (decide (x1543.2.2.2 > 47)) = true then (
some true)
else (
if (x1543.2.2.1 == (-1)) = true then (
some (([x1543.2.1.1, x1543.2.1.2.1, x1543.2.1.2.2.1, x1543.2.1.2.2.2] : List Int) != ([0, 0, 0, 0] : List Int)))
else (
some false)))))) : Option Bool) >>= fun x1586 =>
if x1586 = true then (
some (.inr (.inr false)))
else (
((iterO N (fun s => F_dofferref15_Right_l2 N x2 x1543 s) 0) : Option (Unit ⊕ (Int ⊕ (Unit ⊕ Bool)))) >>= fun z => match z with
| .inr z => some z
| .inl _ =>
some (.inl (w64 (x1415 + 1)))))
else (
some (.inr (.inl ())))
def F_dofferref15_Right (N : Nat)  (x2 : (List ((List Int) × (Int × Int × Int × Int) × Int × Int))) (x5 : (List Int)) : Option Bool :=
((if (decide ((x2.length : Int) < 1)) = true then (
some true)
else (
if (decide ((x2.length : Int) > 4000)) = true then (
some true)
else (
if (decide ((x5.length : Int) < 1)) = true then (
some true)
else (
some (decide ((x5.length : Int) > 8)))))) : Option Bool) >>= fun x839 =>
if x839 = true then (
some false)
else (
((iterO N (fun s => F_dofferref15_Right_l0 N x2 x5 s) 0) : Option (Unit ⊕ Bool)) >>= fun z => match z with
| .inr z => some z
| .inl _ =>
((iterO N (fun s => F_dofferref15_Right_l1 N x2 s) 0) : Option (Unit ⊕ Bool)) >>= fun z => match z with
| .inr z => some z
| .inl _ =>
some true)
def F_slices_Equal_int_int_l0 (_N : Nat) (x2 : (List Int)) (x5 : (List Int)) (x173 : Int) : Option (Int ⊕ (Unit ⊕ Bool)) :=
if (decide (x173 < (x2.length : Int))) = true then (
idx x2 x173 >>= fun x193 =>
idx x5 x173 >>= fun x200 =>
if (x193 != x200) = true then (
some (.inr (.inr false)))
else (
some (.inl (w64 (x173 + 1)))))
else (
some (.inr (.inl ())))
def F_slices_Equal_int_int (N : Nat)  (x2 : (List Int)) (x5 : (List Int)) : Option Bool :=
if ((x2.length : Int) != (x5.length : Int)) = true then (
some false)
else (
((iterO N (fun s => F_slices_Equal_int_int_l0 N x2 x5 s) 0) : Option (Unit ⊕ Bool)) >>= fun z => match z with
| .inr z => some z
| .inl _ =>
some true)
def F_nfa_equal (N : Nat)  (x2 : (List Int)) (x4 : Int) (x5 : Int) (x6 : Int) (x7 : Int) (x8 : Int) (x9 : Int) (x11 : (List Int)) (x13 : Int) (x14 : Int) (x15 : Int) (x16 : Int) (x17 : Int) (x18 : Int) : Option Bool :=
((F_slices_Equal_int_int N x2 x11 >>= fun x47 =>
if x47 = true then (
if (([x4, x5, x6, x7] : List Int) == ([x13, x14, x15, x16] : List Int)) = true then (
if (x8 == x17) = true then (
some (x9 == x18))
else (
some false))
else (
some false))
else (
some false)) : Option Bool) >>= fun x43 =>
some x43
def F_slices_EqualFunc_nfa_State_nfa_State_nfa_State_nfa_State_l0 (N : Nat) (x2 : (List ((List Int) × (Int × Int × Int × Int) × Int × Int))) (x5 : (List ((List Int) × (Int × Int × Int × Int) × Int × Int))) (x933 : Int) : Option (Int ⊕ (Unit ⊕ Bool)) :=
if (decide (x933 < (x2.length : Int))) = true then (
idx x2 x933 >>= fun x1029 =>
idx x5 x933 >>= fun x1072 =>
F_nfa_equal N x1029.1 x1029.2.1.1 x1029.2.1.2.1 x1029.2.1.2.2.1 x1029.2.1.2.2.2 x1029.2.2.1 x1029.2.2.2 x1072.1 x1072.2.1.1 x1072.2.1.2.1 x1072.2.1.2.2.1 x1072.2.1.2.2.2 x1072.2.2.1 x1072.2.2.2 >>= fun x1117 =>
if (!x1117) = true then (
some (.inr (.inr false)))
else (
some (.inl (w64 (x933 + 1)))))
else (
some (.inr (.inl ())))
def F_slices_EqualFunc_nfa_State_nfa_State_nfa_State_nfa_State (N : Nat)  (x2 : (List ((List Int) × (Int × Int × Int × Int) × Int × Int))) (x5 : (List ((List Int) × (Int × Int × Int × Int) × Int × Int))) : Option Bool :=
if ((x2.length : Int) != (x5.length : Int)) = true then (
some false)
else (
((iterO N (fun s => F_slices_EqualFunc_nfa_State_nfa_State_nfa_State_nfa_State_l0 N x2 x5 s) 0) : Option (Unit ⊕ Bool)) >>= fun z => match z with
| .inr z => some z
| .inl _ =>
some true)
def F_nfa_Same (N : Nat)  (x2 : (List ((List Int) × (Int × Int × Int × Int) × Int × Int))) (x5 : (List Int)) (x8 : (List ((List Int) × (Int × Int × Int × Int) × Int × Int))) (x11 : (List Int)) : Option Bool :=
((F_slices_Equal_int_int N x5 x11 >>= fun x53 =>
if x53 = true then (
F_slices_EqualFunc_nfa_State_nfa_State_nfa_State_nfa_State N x2 x8 >>= fun x57 =>
some x57)
else (
some false)) : Option Bool) >>= fun x49 =>
some x49
def F_doffernum_SameInts_l0 (_N : Nat) (x2 : (List Int)) (x5 : (List Int)) (x173 : Int) : Option (Int ⊕ (Unit ⊕ Bool)) :=
if (decide (x173 < (x2.length : Int))) = true then (
idx x2 x173 >>= fun x193 =>
idx x5 x173 >>= fun x200 =>
if (x193 != x200) = true then (
some (.inr (.inr false)))
else (
some (.inl (w64 (x173 + 1)))))
else (
some (.inr (.inl ())))
def F_doffernum_SameInts (N : Nat)  (x2 : (List Int)) (x5 : (List Int)) : Option Bool :=
if ((x2.length : Int) != (x5.length : Int)) = true then (
some false)
else (
((iterO N (fun s => F_doffernum_SameInts_l0 N x2 x5 s) 0) : Option (Unit ⊕ Bool)) >>= fun z => match z with
| .inr z => some z
| .inl _ =>
some true)
def F_dofferref15_Same_l0 (N : Nat) (x2 : (List ((List Int) × (Int × Int × Int × Int) × Int × Int))) (x8 : (List ((List Int) × (Int × Int × Int × Int) × Int × Int))) (x1039 : Int) : Option (Int ⊕ (Unit ⊕ Bool)) :=
if (decide (x1039 < (x2.length : Int))) = true then (
idx x2 x1039 >>= fun x1142 =>
idx x8 x1039 >>= fun x1185 =>
((F_doffernum_SameInts N x1142.1 x1185.1 >>= fun x1236 =>
if (!x1236) = true then (
some true)
else (
if (([x1142.2.1.1, x1142.2.1.2.1, x1142.2.1.2.2.1, x1142.2.1.2.2.2] : List Int) != ([x1185.2.1.1, x1185.2.1.2.1, x1185.2.1.2.2.1, x1185.2.1.2.2.2] : List Int)) = true then (
some true)
else (
if (x1142.2.2.1 != x1185.2.2.1) = true then (
some true)
else (
some (x1142.2.2.2 != x1185.2.2.2))))) : Option Bool) >>= fun x1232 =>
if x1232 = true then (
some (.inr (.inr false)))
else (
some (.inl (w64 (x1039 + 1)))))
else (
some (.inr (.inl ())))
def F_dofferref15_Same (N : Nat)  (x2 : (List ((List Int) × (Int × Int × Int × Int) × Int × Int))) (x5 : (List Int)) (x8 : (List ((List Int) × (Int × Int × Int × Int) × Int × Int))) (x11 : (List Int)) : Option Bool :=
((F_doffernum_SameInts N x5 x11 >>= fun x639 =>
if (!x639) = true then (
some true)
else (
some ((x2.length : Int) != (x8.length : Int)))) : Option Bool) >>= fun x635 =>
if x635 = true then (
some false)
else (
((iterO N (fun s => F_dofferref15_Same_l0 N x2 x8 s) 0) : Option (Unit ⊕ Bool)) >>= fun z => match z with
| .inr z => some z
| .inl _ =>
some true)
def F_dofferlaw15_NfaRight_l0 (_N : Nat) (x2 : (List ((List Int) × (Int × Int × Int × Int) × Int × Int))) (x1343 : Int) (x1344 : (List ((List Int) × (Int × Int × Int × Int) × Int × Int))) : Option ((Int × (List ((List Int) × (Int × Int × Int × Int) × Int × Int))) ⊕ (List ((List Int) × (Int × Int × Int × Int) × Int × Int))) :=
if (decide (x1343 < (x2.length : Int))) = true then (
((idx x1344 x1343 >>= fun x1515 =>
setI x1344 x1343 (x1515.1, (x1515.2.1.1, x1515.2.1.2.1, x1515.2.1.2.2.1, x1515.2.1.2.2.2), x1515.2.2.1, (99 : Int)) >>= fun x1523 =>
idx x1523 x1343 >>= fun x1525 =>
((if (decide ((x1525.1.length : Int) > 0)) = true then (
idx x1523 x1343 >>= fun x1551 =>
idx x1551.1 0 >>= fun _x1559 =>
setI x1551.1 0 (-5) >>= fun x1564 =>
setI x1523 x1343 (x1564, x1551.2) >>= fun x1565 =>
some x1565)
else (
some x1523)) : Option (List ((List Int) × (Int × Int × Int × Int) × Int × Int))) >>= fun x1549 =>
some x1549) : Option (List ((List Int) × (Int × Int × Int × Int) × Int × Int))) >>= fun x1513 =>
some (.inl (w64 (x1343 + 1), x1513)))
else (
some (.inr x1344))
def F_dofferlaw15_NfaRight (N : Nat)  (x2 : (List ((List Int) × (Int × Int × Int × Int) × Int × Int))) (x5 : (List Int)) (x8 : (List ((List Int) × (Int × Int × Int × Int) × Int × Int))) (x11 : (List Int)) : Option Bool :=
F_dofferlaw15_Of N x2 x5 100 >>= fun (x820, x821) =>
F_dofferlaw15_Of N x8 x11 100 >>= fun (x831, x832) =>
((if (!x821) = true then (
some true)
else (
some (!x832))) : Option Bool) >>= fun x838 =>
if x838 = true then (
some true)
else (
F_nfa_Copy N x2 x5 >>= fun _ =>
((F_nfa_Right N x2 x5 >>= fun x874 =>
F_dofferref15_Right N x820 x5 >>= fun x878 =>
if (x874 != x878) = true then (
some true)
else (
F_nfa_Same N x2 x5 x8 x11 >>= fun x882 =>
F_dofferref15_Same N x820 x5 x831 x11 >>= fun x886 =>
if (x882 != x886) = true then (
some true)
else (
F_nfa_Same N x2 x5 x2 x5 >>= fun x890 =>
some (!x890)))) : Option Bool) >>= fun x870 =>
if x870 = true then (
some false)
else (
((iterO N (fun s => F_dofferlaw15_NfaRight_l0 N x2 s.1 s.2) (0, x2)) : Option (List ((List Int) × (Int × Int × Int × Int) × Int × Int))) >>= fun x1230 =>
F_dofferlaw15_Of N x2 x5 100 >>= fun (x1574, _x1575) =>
((F_dofferref15_Right N x1574 x5 >>= fun x1597 =>
F_dofferref15_Right N x820 x5 >>= fun x1601 =>
if (x1597 == x1601) = true then (
if ((x2.length : Int) == 0) = true then (
some true)
else (
F_nfa_Right N x1230 x5 >>= fun x1605 =>
some (!x1605)))
else (
some false)) : Option Bool) >>= fun x1593 =>
some x1593))
end Go.Proofs.YtchjfkdljnmmgaaGreatDoor
