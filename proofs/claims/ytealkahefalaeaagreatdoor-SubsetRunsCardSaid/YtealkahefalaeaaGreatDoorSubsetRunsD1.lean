/-
  The pure functions, printed by my program: what each function of the code computes.
-/
import Derived.Test.YtealkahefalaeaaGreatDoorSubsetRunsE3
namespace Go.Proofs.YtealkahefalaeaaGreatDoor
open Go Go.Eng
set_option maxRecDepth 100000
def tab_math_bits_deBruijn64tab : List Int := [0, 1, 56, 2, 57, 49, 28, 3, 61, 58, 42, 50, 38, 29, 17, 4, 62, 47, 59, 36, 45, 43, 51, 22, 53, 39, 33, 30, 24, 18, 12, 5, 63, 55, 48, 27, 60, 41, 37, 16, 46, 35, 44, 21, 52, 32, 23, 11, 54, 26, 40, 15, 34, 20, 31, 10, 25, 14, 19, 9, 13, 8, 7, 6]
def errIds : List Nat := [0, 1, 2, 3, 4, 5, 6, 7, 8, 12, 14]
def F_dofferlaw17_Of_l0 (_N : Nat) (x2 : (List (List Int))) (x302 : Int) (x305 : (List (List Int))) : Option ((Int × (List (List Int))) ⊕ (List (List Int))) :=
if (decide (x302 < (x2.length : Int))) = true then (
idx x2 x302 >>= fun x335 =>
app x305 ([x335]) >>= fun x347 =>
some (.inl (w64 (x302 + 1), x347)))
else (
some (.inr x305))
def F_dofferlaw17_Of (N : Nat)  (x2 : (List (List Int))) (x5 : (List Int)) (x8 : (List Int)) (x10 : Int) : Option ((List (List Int)) × Bool) :=
((if (decide ((x2.length : Int) > x10)) = true then (
some true)
else (
if (decide ((x5.length : Int) > x10)) = true then (
some true)
else (
some (decide ((x8.length : Int) > 20))))) : Option Bool) >>= fun x193 =>
if x193 = true then (
some ([], false))
else (
((iterO N (fun s => F_dofferlaw17_Of_l0 N x2 s.1 s.2) (0, [])) : Option (List (List Int))) >>= fun x275 =>
some (x275, true))
def F_subset_Right_1 (_N : Nat)  (x1 : Int) (x3 : Int) : Option Bool :=
((if (decide (x1 < 0)) = true then (
some true)
else (
some (decide (x1 ≥ x3)))) : Option Bool) >>= fun x8 =>
some x8
def F_slices_IndexFunc_int_int_l0 (N : Nat) (x2 : (List Int)) (x5 : Int) (x142 : Int) : Option (Int ⊕ (Unit ⊕ Int)) :=
if (decide (x142 < (x2.length : Int))) = true then (
idx x2 x142 >>= fun x159 =>
F_subset_Right_1 N x159 x5 >>= fun x168 =>
if x168 = true then (
some (.inr (.inr x142)))
else (
some (.inl (w64 (x142 + 1)))))
else (
some (.inr (.inl ())))
def F_slices_IndexFunc_int_int (N : Nat)  (x2 : (List Int)) (x5 : Int) : Option Int :=
((iterO N (fun s => F_slices_IndexFunc_int_int_l0 N x2 x5 s) 0) : Option (Unit ⊕ Int)) >>= fun z => match z with
| .inr z => some z
| .inl _ =>
some (-1)
def F_slices_ContainsFunc_int_int (N : Nat)  (x2 : (List Int)) (x5 : Int) : Option Bool :=
F_slices_IndexFunc_int_int N x2 x5 >>= fun x13 =>
some (decide (x13 ≥ 0))
def F_subset_Right_2 (_N : Nat)  (x1 : Int) : Option Bool :=
((if (decide (x1 < (-1))) = true then (
some true)
else (
some (decide (x1 ≥ 48)))) : Option Bool) >>= fun x6 =>
some x6
def F_slices_IndexFunc_int_int_1_l0 (N : Nat) (x2 : (List Int)) (x140 : Int) : Option (Int ⊕ (Unit ⊕ Int)) :=
if (decide (x140 < (x2.length : Int))) = true then (
idx x2 x140 >>= fun x157 =>
F_subset_Right_2 N x157 >>= fun x166 =>
if x166 = true then (
some (.inr (.inr x140)))
else (
some (.inl (w64 (x140 + 1)))))
else (
some (.inr (.inl ())))
def F_slices_IndexFunc_int_int_1 (N : Nat)  (x2 : (List Int)) : Option Int :=
((iterO N (fun s => F_slices_IndexFunc_int_int_1_l0 N x2 s) 0) : Option (Unit ⊕ Int)) >>= fun z => match z with
| .inr z => some z
| .inl _ =>
some (-1)
def F_slices_ContainsFunc_int_int_1 (N : Nat)  (x2 : (List Int)) : Option Bool :=
F_slices_IndexFunc_int_int_1 N x2 >>= fun x11 =>
some (decide (x11 ≥ 0))
def F_subset_Right_l0 (N : Nat) (x2 : (List (List Int))) (x242 : Int) : Option (Int ⊕ (Unit ⊕ Bool)) :=
if (decide (x242 < (x2.length : Int))) = true then (
idx x2 x242 >>= fun x262 =>
F_slices_ContainsFunc_int_int N x262 (x2.length : Int) >>= fun x274 =>
if x274 = true then (
some (.inr (.inr false)))
else (
some (.inl (w64 (x242 + 1)))))
else (
some (.inr (.inl ())))
def F_subset_Right (N : Nat)  (x2 : (List (List Int))) (x5 : (List Int)) (x8 : (List Int)) : Option Bool :=
((if (decide ((x2.length : Int) < 1)) = true then (
some true)
else (
if (decide ((x2.length : Int) > 200)) = true then (
some true)
else (
if ((x5.length : Int) != (x2.length : Int)) = true then (
some true)
else (
if (decide ((x8.length : Int) < 1)) = true then (
some true)
else (
some (decide ((x8.length : Int) > 8))))))) : Option Bool) >>= fun x174 =>
if x174 = true then (
some false)
else (
((iterO N (fun s => F_subset_Right_l0 N x2 s) 0) : Option (Unit ⊕ Bool)) >>= fun z => match z with
| .inr z => some z
| .inl _ =>
((F_slices_ContainsFunc_int_int_1 N x5 >>= fun x289 =>
if x289 = true then (
some true)
else (
F_slices_ContainsFunc_int_int N x8 (x2.length : Int) >>= fun x293 =>
some x293)) : Option Bool) >>= fun x285 =>
if x285 = true then (
some false)
else (
((idx x2 0 >>= fun x312 =>
if (x312 == (List.replicate 256 0)) = true then (
idx x5 0 >>= fun x319 =>
some (x319 == (-1)))
else (
some false)) : Option Bool) >>= fun x310 =>
some x310))
def F_subset_DFA_begin (_N : Nat)  (_x2 : (List (List Int))) (_x5 : (List Int)) (x8 : (List Int)) (x10 : Int) : Option Int :=
((if (decide (x10 < 0)) = true then (
some true)
else (
some (decide (x10 ≥ (x8.length : Int))))) : Option Bool) >>= fun x26 =>
if x26 = true then (
some 0)
else (
idx x8 x10 >>= fun x29 =>
some x29)
def F_subset_DFA_next (_N : Nat)  (x2 : (List (List Int))) (_x5 : (List Int)) (_x8 : (List Int)) (x10 : Int) (x11 : Int) : Option Int :=
((if (decide (x10 < 0)) = true then (
some true)
else (
some (decide (x10 ≥ (x2.length : Int))))) : Option Bool) >>= fun x32 =>
if x32 = true then (
some 0)
else (
idx x2 x10 >>= fun x35 =>
idx x35 x11 >>= fun x42 =>
some x42)
def F_subset_DFA_Longest_l0 (N : Nat) (x2 : (List (List Int))) (x5 : (List Int)) (x8 : (List Int)) (x15 : Int) (x423 : (List Int)) (x671 : Int) (x672 : Int) (x673 : Int) (x674 : Int) : Option ((Int × Int × Int × Int) ⊕ (Int × Int)) :=
if (decide (x674 < (x423.length : Int))) = true then (
((idx x423 x674 >>= fun x767 =>
F_subset_DFA_next N x2 x5 x8 x673 x767 >>= fun x776 =>
((if (x776 == 0) = true then (
some true)
else (
some (decide (x674 ≥ x15)))) : Option Bool) >>= fun x778 =>
if x778 = true then (
some (.inr (.inr (x671, x672))))
else (
idx x5 x776 >>= fun x781 =>
((if (x781 != (-1)) = true then (
some (w64 (x674 + 1), x781))
else (
some (x671, x672))) : Option (Int × Int)) >>= fun (x788, x789) =>
some (.inl (x788, x789, x776)))) : Option ((Int × Int × Int) ⊕ ((Int × Int × Int × Int) ⊕ (Int × Int)))) >>= fun z => match z with
| .inr z => some z
| .inl (x763, x764, x765) =>
some (.inl (x763, x764, x765, w64 (x674 + 1))))
else (
some (.inr (x671, x672)))
def F_subset_DFA_Longest (N : Nat)  (x2 : (List (List Int))) (x5 : (List Int)) (x8 : (List Int)) (x10 : Int) (x12 : (List Int)) (x14 : Int) (x15 : Int) : Option (Int × Int) :=
((if (decide (x14 < 0)) = true then (
some true)
else (
if (decide (x14 > (x12.length : Int))) = true then (
some true)
else (
F_subset_Right N x2 x5 x8 >>= fun x416 =>
some (!x416)))) : Option Bool) >>= fun x412 =>
if x412 = true then (
some (0, (-1)))
else (
F_subset_DFA_begin N x2 x5 x8 x10 >>= fun x421 =>
slc x12 x14 (x12.length : Int) >>= fun x423 =>
((iterO N (fun s => F_subset_DFA_Longest_l0 N x2 x5 x8 x15 x423 s.1 s.2.1 s.2.2.1 s.2.2.2) (0, (-1), x421, 0)) : Option (Int × Int)) >>= fun (x609, x610) =>
some (x609, x610))
def F_dofferref17_Right_l1 (_N : Nat) (x2 : (List (List Int))) (x939 : Int) (x1026 : (List Int)) (x1092 : Int) : Option (Int ⊕ (Unit ⊕ (Int ⊕ (Unit ⊕ Bool)))) :=
if (decide (x1092 < 256)) = true then (
idx x1026 x1092 >>= fun x1102 =>
((if (decide (x1102 < 0)) = true then (
some true)
else (
if (decide (x1102 ≥ (x2.length : Int))) = true then (
some true)
else (
if (x939 == 0) = true then (
some (x1102 != 0))
else (
some false)))) : Option Bool) >>= fun x1103 =>
if x1103 = true then (
some (.inr (.inr (.inr (.inr false)))))
else (
some (.inl (w64 (x1092 + 1)))))
else (
some (.inr (.inl ())))
def F_dofferref17_Right_l0 (N : Nat) (x2 : (List (List Int))) (x5 : (List Int)) (x939 : Int) : Option (Int ⊕ (Unit ⊕ Bool)) :=
if (decide (x939 < (x2.length : Int))) = true then (
idx x2 x939 >>= fun x1026 =>
((idx x5 x939 >>= fun x1052 =>
if (decide (x1052 < (-1))) = true then (
some true)
else (
idx x5 x939 >>= fun x1059 =>
some (decide (x1059 > 47)))) : Option Bool) >>= fun x1050 =>
if x1050 = true then (
some (.inr (.inr false)))
else (
((iterO N (fun s => F_dofferref17_Right_l1 N x2 x939 x1026 s) 0) : Option (Unit ⊕ (Int ⊕ (Unit ⊕ Bool)))) >>= fun z => match z with
| .inr z => some z
| .inl _ =>
some (.inl (w64 (x939 + 1)))))
else (
some (.inr (.inl ())))
def F_dofferref17_Right_l2 (_N : Nat) (x2 : (List (List Int))) (x8 : (List Int)) (x1157 : Int) : Option (Int ⊕ (Unit ⊕ Bool)) :=
if (decide (x1157 < (x8.length : Int))) = true then (
idx x8 x1157 >>= fun x1173 =>
((if (decide (x1173 < 0)) = true then (
some true)
else (
some (decide (x1173 ≥ (x2.length : Int))))) : Option Bool) >>= fun x1180 =>
if x1180 = true then (
some (.inr (.inr false)))
else (
some (.inl (w64 (x1157 + 1)))))
else (
some (.inr (.inl ())))
def F_dofferref17_Right (N : Nat)  (x2 : (List (List Int))) (x5 : (List Int)) (x8 : (List Int)) : Option Bool :=
((if (decide ((x2.length : Int) < 1)) = true then (
some true)
else (
if (decide ((x2.length : Int) > 200)) = true then (
some true)
else (
if ((x5.length : Int) != (x2.length : Int)) = true then (
some true)
else (
if (decide ((x8.length : Int) < 1)) = true then (
some true)
else (
some (decide ((x8.length : Int) > 8))))))) : Option Bool) >>= fun x603 =>
if x603 = true then (
some false)
else (
((iterO N (fun s => F_dofferref17_Right_l0 N x2 x5 s) 0) : Option (Unit ⊕ Bool)) >>= fun z => match z with
| .inr z => some z
| .inl _ =>
((iterO N (fun s => F_dofferref17_Right_l2 N x2 x8 s) 0) : Option (Unit ⊕ Bool)) >>= fun z => match z with
| .inr z => some z
| .inl _ =>
idx x5 0 >>= fun x1184 =>
some (x1184 == (-1)))
def F_subset_DFA_Run_l0 (N : Nat) (x2 : (List (List Int))) (x5 : (List Int)) (x8 : (List Int)) (x12 : (List Int)) (x189 : Int) (x190 : Int) : Option ((Int × Int) ⊕ Int) :=
if (decide (x189 < (x12.length : Int))) = true then (
idx x12 x189 >>= fun x208 =>
F_subset_DFA_next N x2 x5 x8 x190 x208 >>= fun x217 =>
some (.inl (w64 (x189 + 1), x217)))
else (
some (.inr x190))
def F_subset_DFA_Run (N : Nat)  (x2 : (List (List Int))) (x5 : (List Int)) (x8 : (List Int)) (x10 : Int) (x12 : (List Int)) : Option Int :=
F_subset_Right N x2 x5 x8 >>= fun x125 =>
if (!x125) = true then (
some (-1))
else (
F_subset_DFA_begin N x2 x5 x8 x10 >>= fun x129 =>
((iterO N (fun s => F_subset_DFA_Run_l0 N x2 x5 x8 x12 s.1 s.2) (0, x129)) : Option Int) >>= fun x174 =>
idx x5 x174 >>= fun x220 =>
some x220)
def F_subset_DFA_Next (N : Nat)  (x2 : (List (List Int))) (x5 : (List Int)) (x8 : (List Int)) (x10 : Int) (x11 : Int) : Option Int :=
F_subset_Right N x2 x5 x8 >>= fun x27 =>
if (!x27) = true then (
some 0)
else (
F_subset_DFA_next N x2 x5 x8 x10 x11 >>= fun x31 =>
some x31)
def F_subset_DFA_Begin (N : Nat)  (x2 : (List (List Int))) (x5 : (List Int)) (x8 : (List Int)) (x10 : Int) : Option Int :=
F_subset_Right N x2 x5 x8 >>= fun x26 =>
if (!x26) = true then (
some 0)
else (
F_subset_DFA_begin N x2 x5 x8 x10 >>= fun x30 =>
some x30)
def F_dofferref17_Trace_l0 (_N : Nat) (x2 : (List (List Int))) (x12 : (List Int)) (x421 : Int) (x422 : Int) (x425 : (List Int)) : Option ((Int × Int × (List Int)) ⊕ (List Int)) :=
if (decide (x421 < (x12.length : Int))) = true then (
idx x12 x421 >>= fun x464 =>
idx x2 x422 >>= fun x471 =>
idx x471 x464 >>= fun x478 =>
app x425 ([x478]) >>= fun x485 =>
some (.inl (w64 (x421 + 1), x478, x485)))
else (
some (.inr x425))
def F_dofferref17_Trace (N : Nat)  (x2 : (List (List Int))) (_x5 : (List Int)) (x8 : (List Int)) (x10 : Int) (x12 : (List Int)) : Option (List Int) :=
((if (decide (x10 ≥ 0)) = true then (
some (decide (x10 < (x8.length : Int))))
else (
some false)) : Option Bool) >>= fun x258 =>
((if x258 = true then (
idx x8 x10 >>= fun x270 =>
some x270)
else (
some 0)) : Option Int) >>= fun x268 =>
((iterO N (fun s => F_dofferref17_Trace_l0 N x2 x12 s.1 s.2.1 s.2.2) (0, x268, [x268])) : Option (List Int)) >>= fun x385 =>
some x385
def F_dofferref17_Longest_l0 (_N : Nat) (x5 : (List Int)) (x15 : Int) (x659 : (List Int)) (x1085 : Int) (x1086 : Int) (x1087 : Int) : Option ((Int × Int × Int) ⊕ (Int × Int)) :=
if (decide (x1087 < (x659.length : Int))) = true then (
((idx x659 x1087 >>= fun x1228 =>
((if (decide (x1087 > 0)) = true then (
if (decide (x1087 ≤ x15)) = true then (
idx x5 x1228 >>= fun x1244 =>
some (decide (x1244 ≥ 0)))
else (
some false))
else (
some false)) : Option Bool) >>= fun x1242 =>
((if x1242 = true then (
idx x5 x1228 >>= fun x1262 =>
some (x1087, x1262))
else (
some (x1085, x1086))) : Option (Int × Int)) >>= fun (x1259, x1260) =>
some (x1259, x1260)) : Option (Int × Int)) >>= fun (x1225, x1226) =>
some (.inl (x1225, x1226, w64 (x1087 + 1))))
else (
some (.inr (x1085, x1086)))
def F_dofferref17_Longest (N : Nat)  (x2 : (List (List Int))) (x5 : (List Int)) (x8 : (List Int)) (x10 : Int) (x12 : (List Int)) (x14 : Int) (x15 : Int) : Option (Int × Int) :=
((if (decide (x14 < 0)) = true then (
some true)
else (
some (decide (x14 > (x12.length : Int))))) : Option Bool) >>= fun x647 =>
if x647 = true then (
some (0, (-1)))
else (
slc x12 x14 (x12.length : Int) >>= fun x650 =>
F_dofferref17_Trace N x2 x5 x8 x10 x650 >>= fun x659 =>
((iterO N (fun s => F_dofferref17_Longest_l0 N x5 x15 x659 s.1 s.2.1 s.2.2) (0, (-1), 0)) : Option (Int × Int)) >>= fun (x965, x966) =>
some (x965, x966))
def F_dofferlaw17_SubsetRuns (N : Nat)  (x2 : (List (List Int))) (x5 : (List Int)) (x8 : (List Int)) (x11 : (List Int)) (x13 : Int) (x14 : Int) (x15 : Int) : Option Bool :=
F_dofferlaw17_Of N x2 x5 x8 40 >>= fun (x231, x232) =>
((if (!x232) = true then (
some true)
else (
some (decide ((x11.length : Int) > 50)))) : Option Bool) >>= fun x238 =>
if x238 = true then (
some true)
else (
F_subset_DFA_Longest N x2 x5 x8 x13 x11 x14 x15 >>= fun (x243, x244) =>
F_subset_Right N x2 x5 x8 >>= fun x248 =>
F_dofferref17_Right N x231 x5 x8 >>= fun x252 =>
if (x248 != x252) = true then (
some false)
else (
F_dofferref17_Right N x231 x5 x8 >>= fun x256 =>
if (!x256) = true then (
((F_subset_DFA_Run N x2 x5 x8 x13 x11 >>= fun x274 =>
if (x274 == (-1)) = true then (
if (x243 == 0) = true then (
if (x244 == (-1)) = true then (
F_subset_DFA_Next N x2 x5 x8 x14 5 >>= fun x278 =>
if (x278 == 0) = true then (
F_subset_DFA_Begin N x2 x5 x8 x13 >>= fun x282 =>
some (x282 == 0))
else (
some false))
else (
some false))
else (
some false))
else (
some false)) : Option Bool) >>= fun x270 =>
some x270)
else (
F_dofferref17_Trace N x231 x5 x8 x13 x11 >>= fun x289 =>
F_dofferref17_Longest N x231 x5 x8 x13 x11 x14 x15 >>= fun (x294, x295) =>
((if (decide (x14 ≥ 0)) = true then (
if (decide (x14 < (x231.length : Int))) = true then (
some (decide ((x11.length : Int) > 0)))
else (
some false))
else (
some false)) : Option Bool) >>= fun x297 =>
((if x297 = true then (
idx x11 0 >>= fun x321 =>
idx x231 x14 >>= fun x328 =>
idx x328 x321 >>= fun x335 =>
some x335)
else (
some 0)) : Option Int) >>= fun x319 =>
((if (decide ((x11.length : Int) > 0)) = true then (
idx x11 0 >>= fun x354 =>
F_subset_DFA_Next N x2 x5 x8 x14 x354 >>= fun x363 =>
some (x363 != x319))
else (
some false)) : Option Bool) >>= fun x352 =>
if x352 = true then (
some false)
else (
((idx x289 0 >>= fun x397 =>
F_subset_DFA_Begin N x2 x5 x8 x13 >>= fun x406 =>
if (x406 == x397) = true then (
idx x289 (w64 ((x289.length : Int) - 1)) >>= fun x408 =>
idx x5 x408 >>= fun x415 =>
F_subset_DFA_Run N x2 x5 x8 x13 x11 >>= fun x424 =>
if (x424 == x415) = true then (
if (x243 == x294) = true then (
some (x244 == x295))
else (
some false))
else (
some false))
else (
some false)) : Option Bool) >>= fun x395 =>
some x395))))
end Go.Proofs.YtealkahefalaeaaGreatDoor
