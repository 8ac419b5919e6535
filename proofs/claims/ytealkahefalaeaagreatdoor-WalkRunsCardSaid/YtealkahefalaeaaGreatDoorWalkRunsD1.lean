/-
  The pure functions, printed by my program: what each function of the code computes.
-/
import Derived.Test.YtealkahefalaeaaGreatDoorWalkRunsE3
namespace Go.Proofs.YtealkahefalaeaaGreatDoor
open Go Go.Eng
set_option maxRecDepth 100000
def tab_math_bits_deBruijn64tab : List Int := [0, 1, 56, 2, 57, 49, 28, 3, 61, 58, 42, 50, 38, 29, 17, 4, 62, 47, 59, 36, 45, 43, 51, 22, 53, 39, 33, 30, 24, 18, 12, 5, 63, 55, 48, 27, 60, 41, 37, 16, 46, 35, 44, 21, 52, 32, 23, 11, 54, 26, 40, 15, 34, 20, 31, 10, 25, 14, 19, 9, 13, 8, 7, 6]
def errIds : List Nat := [0, 1, 2, 3, 4, 5, 6, 7, 8, 12, 14]
def F_doffernum_SameInts_l0 (_N : Nat) (x2 : (List Int)) (x5 : (List Int)) (x173 : Int) : Option (Int ⊕ (Unit ⊕ Bool)) :=
if (decide (x173 < (x2.length : Int))) = true then (
idx x2 x173 >>= fun x193 =>
idx x5 x173 >>= fun x200 =>
if (x193 != x200) = true then (
some (.inr (.inr false)))
else (
some (.inl (w64 (x173 + 1)))))
else (
some (.inr (.inl ())))
def F_doffernum_SameInts (N : Nat)  (x2 : (List Int)) (x5 : (List Int)) : Option Bool :=
if ((x2.length : Int) != (x5.length : Int)) = true then (
some false)
else (
((iterO N (fun s => F_doffernum_SameInts_l0 N x2 x5 s) 0) : Option (Unit ⊕ Bool)) >>= fun z => match z with
| .inr z => some z
| .inl _ =>
some true)
def F_dofferlaw15_Of_l0 (_N : Nat) (x2 : (List ((List Int) × (Int × Int × Int × Int) × Int × Int))) (x639 : Int) (x642 : (List ((List Int) × (Int × Int × Int × Int) × Int × Int))) : Option ((Int × (List ((List Int) × (Int × Int × Int × Int) × Int × Int))) ⊕ ((List ((List Int) × (Int × Int × Int × Int) × Int × Int)) ⊕ ((List ((List Int) × (Int × Int × Int × Int) × Int × Int)) × Bool))) :=
if (decide (x639 < (x2.length : Int))) = true then (
idx x2 x639 >>= fun x706 =>
if (decide ((x706.1.length : Int) > 100)) = true then (
some (.inr (.inr (x642, false))))
else (
app x642 ([(x706.1, (x706.2.1.1, x706.2.1.2.1, x706.2.1.2.2.1, x706.2.1.2.2.2), x706.2.2.1, x706.2.2.2)]) >>= fun x752 =>
some (.inl (w64 (x639 + 1), x752))))
else (
some (.inr (.inl x642)))
def F_dofferlaw15_Of (N : Nat)  (x2 : (List ((List Int) × (Int × Int × Int × Int) × Int × Int))) (x5 : (List Int)) (x7 : Int) : Option ((List ((List Int) × (Int × Int × Int × Int) × Int × Int)) × Bool) :=
((if (decide ((x5.length : Int) > 20)) = true then (
some true)
else (
some (decide ((x2.length : Int) > x7)))) : Option Bool) >>= fun x394 =>
if x394 = true then (
some ([], false))
else (
((iterO N (fun s => F_dofferlaw15_Of_l0 N x2 s.1 s.2) (0, [])) : Option ((List ((List Int) × (Int × Int × Int × Int) × Int × Int)) ⊕ ((List ((List Int) × (Int × Int × Int × Int) × Int × Int)) × Bool))) >>= fun z => match z with
| .inr z => some z
| .inl x578 =>
some (x578, true))
def F_dofferref15_Right_l0 (_N : Nat) (x2 : (List ((List Int) × (Int × Int × Int × Int) × Int × Int))) (x5 : (List Int)) (x891 : Int) : Option (Int ⊕ (Unit ⊕ Bool)) :=
if (decide (x891 < (x5.length : Int))) = true then (
idx x5 x891 >>= fun x907 =>
((if (decide (x907 < 0)) = true then (
some true)
else (
some (decide (x907 ≥ (x2.length : Int))))) : Option Bool) >>= fun x914 =>
if x914 = true then (
some (.inr (.inr false)))
else (
some (.inl (w64 (x891 + 1)))))
else (
some (.inr (.inl ())))
def F_dofferref15_Right_l2 (_N : Nat) (x2 : (List ((List Int) × (Int × Int × Int × Int) × Int × Int))) (x1543 : ((List Int) × (Int × Int × Int × Int) × Int × Int)) (x1638 : Int) : Option (Int ⊕ (Unit ⊕ (Int ⊕ (Unit ⊕ Bool)))) :=
if (decide (x1638 < (x1543.1.length : Int))) = true then (
idx x1543.1 x1638 >>= fun x1654 =>
((if (decide (x1654 < 0)) = true then (
some true)
else (
some (decide (x1654 ≥ (x2.length : Int))))) : Option Bool) >>= fun x1661 =>
if x1661 = true then (
some (.inr (.inr (.inr (.inr false)))))
else (
some (.inl (w64 (x1638 + 1)))))
else (
some (.inr (.inl ())))
def F_dofferref15_Right_l1 (N : Nat) (x2 : (List ((List Int) × (Int × Int × Int × Int) × Int × Int))) (x1415 : Int) : Option (Int ⊕ (Unit ⊕ Bool)) :=
if (decide (x1415 < (x2.length : Int))) = true then (
idx x2 x1415 >>= fun x1543 =>
((if (decide (x1543.2.2.1 < (-1))) = true then (
some true)
else (
if (decide (x1543.2.2.1 ≥ (x2.length : Int))) = true then (
some true)
else (
if (decide (x1543.2.2.2 < (-1))) = true then (
some true)
else (
if (decide (x1543.2.2.2 > 47)) = true then (
some true)
else (
if (x1543.2.2.1 == (-1)) = true then (
some (([x1543.2.1.1, x1543.2.1.2.1, x1543.2.1.2.2.1, x1543.2.1.2.2.2] : List Int) != ([0, 0, 0, 0] : List Int)))
else (
some false)))))) : Option Bool) >>= fun x1586 =>
if x1586 = true then (
some (.inr (.inr false)))
else (
((iterO N (fun s => F_dofferref15_Right_l2 N x2 x1543 s) 0) : Option (Unit ⊕ (Int ⊕ (Unit ⊕ Bool)))) >>= fun z => match z with
| .inr z => some z
| .inl _ =>
some (.inl (w64 (x1415 + 1)))))
else (
some (.inr (.inl ())))
def F_dofferref15_Right (N : Nat)  (x2 : (List ((List Int) × (Int × Int × Int × Int) × Int × Int))) (x5 : (List Int)) : Option Bool :=
((if (decide ((x2.length : Int) < 1)) = true then (
some true)
else (
if (decide ((x2.length : Int) > 4000)) = true then (
some true)
else (
if (decide ((x5.length : Int) < 1)) = true then (
some true)
else (
some (decide ((x5.length : Int) > 8)))))) : Option Bool) >>= fun x839 =>
if x839 = true then (
some false)
else (
((iterO N (fun s => F_dofferref15_Right_l0 N x2 x5 s) 0) : Option (Unit ⊕ Bool)) >>= fun z => match z with
| .inr z => some z
| .inl _ =>
((iterO N (fun s => F_dofferref15_Right_l1 N x2 s) 0) : Option (Unit ⊕ Bool)) >>= fun z => match z with
| .inr z => some z
| .inl _ =>
some true)
def F_marks_New (_N : Nat)  (x1 : Int) : Option (Unit ⊕ (List Int)) :=
((if (decide (x1 < 0)) = true then (
some true)
else (
some (decide (x1 > 65536)))) : Option Bool) >>= fun x16 =>
if x16 = true then (
some (.inl ()))
else (
mk 0 (w64 ((w64 ((w64 (x1 + 64)) - 1)).tdiv 64)) >>= fun x19 =>
some (.inr x19))
def F_marks_Marks_Size (_N : Nat)  (_x3 : (List Int)) (_x6 : Int) : Option Unit :=
some ()
def F_marks_Marks_at (N : Nat)  (x3 : (List Int)) (x6 : Int) (x7 : Int) : Option (Int × Int × Bool) :=
((nn ((IntKind.wrap .u64 x7).tmod 64) >>= fun _x32 =>
if (decide (x7 ≥ 0)) = true then (
F_marks_Marks_Size N x3 x6 >>= fun _ =>
some (w64 (x7.tdiv 64), shlI .u64 1 ((IntKind.wrap .u64 x7).tmod 64), decide (x7 < x6)))
else (
some (w64 (x7.tdiv 64), shlI .u64 1 ((IntKind.wrap .u64 x7).tmod 64), false))) : Option (Int × Int × Bool)) >>= fun (x28, x29, x30) =>
some (x28, x29, x30)
def F_marks_Marks_Put (N : Nat)  (x3 : (List Int)) (x6 : Int) (x7 : Int) : Option ((List Int) × Bool) :=
F_marks_Marks_at N x3 x6 x7 >>= fun (x55, x56, x57) =>
((if (!x57) = true then (
some true)
else (
idx x3 x55 >>= fun x68 =>
some ((iand .u64 x68 x56) != 0))) : Option Bool) >>= fun x66 =>
if x66 = true then (
some (x3, false))
else (
idx x3 x55 >>= fun x76 =>
idx x3 x55 >>= fun _x83 =>
setI x3 x55 (ior .u64 x76 x56) >>= fun x90 =>
some (x90, true))
def F_sets_Set_Empty (_N : Nat)  (_x1 : Int) (_x2 : Int) (_x3 : Int) (_x4 : Int) : Option Unit :=
some ()
def F_nfa_Right_1 (_N : Nat)  (x1 : Int) (x3 : Int) : Option Bool :=
((if (decide (x1 < 0)) = true then (
some true)
else (
some (decide (x1 ≥ x3)))) : Option Bool) >>= fun x8 =>
some x8
def F_slices_IndexFunc_int_int_2_l0 (N : Nat) (x2 : (List Int)) (x5 : Int) (x142 : Int) : Option (Int ⊕ (Unit ⊕ Int)) :=
if (decide (x142 < (x2.length : Int))) = true then (
idx x2 x142 >>= fun x159 =>
F_nfa_Right_1 N x159 x5 >>= fun x168 =>
if x168 = true then (
some (.inr (.inr x142)))
else (
some (.inl (w64 (x142 + 1)))))
else (
some (.inr (.inl ())))
def F_slices_IndexFunc_int_int_2 (N : Nat)  (x2 : (List Int)) (x5 : Int) : Option Int :=
((iterO N (fun s => F_slices_IndexFunc_int_int_2_l0 N x2 x5 s) 0) : Option (Unit ⊕ Int)) >>= fun z => match z with
| .inr z => some z
| .inl _ =>
some (-1)
def F_slices_ContainsFunc_int_int_2 (N : Nat)  (x2 : (List Int)) (x5 : Int) : Option Bool :=
F_slices_IndexFunc_int_int_2 N x2 x5 >>= fun x13 =>
some (decide (x13 ≥ 0))
def F_nfa_Right_l0 (N : Nat) (x2 : (List ((List Int) × (Int × Int × Int × Int) × Int × Int))) (x847 : Int) : Option (Int ⊕ (Unit ⊕ Bool)) :=
if (decide (x847 < (x2.length : Int))) = true then (
idx x2 x847 >>= fun x932 =>
((if (x932.2.2.1 == (-1)) = true then (
F_sets_Set_Empty N x932.2.1.1 x932.2.1.2.1 x932.2.1.2.2.1 x932.2.1.2.2.2 >>= fun _ =>
if (([x932.2.1.1, x932.2.1.2.1, x932.2.1.2.2.1, x932.2.1.2.2.2] : List Int) == ([0, 0, 0, 0] : List Int)) = true then (
some true)
else (
F_nfa_Right_1 N x932.2.2.1 (x2.length : Int) >>= fun x993 =>
some (!x993)))
else (
F_nfa_Right_1 N x932.2.2.1 (x2.length : Int) >>= fun x997 =>
some (!x997))) : Option Bool) >>= fun x986 =>
((if (!x986) = true then (
some true)
else (
F_slices_ContainsFunc_int_int_2 N x932.1 (x2.length : Int) >>= fun x1008 =>
if x1008 = true then (
some true)
else (
if (decide (x932.2.2.2 < (-1))) = true then (
some true)
else (
some (decide (x932.2.2.2 ≥ 48)))))) : Option Bool) >>= fun x1004 =>
if x1004 = true then (
some (.inr (.inr false)))
else (
some (.inl (w64 (x847 + 1)))))
else (
some (.inr (.inl ())))
def F_nfa_Right (N : Nat)  (x2 : (List ((List Int) × (Int × Int × Int × Int) × Int × Int))) (x5 : (List Int)) : Option Bool :=
((iterO N (fun s => F_nfa_Right_l0 N x2 s) 0) : Option (Unit ⊕ Bool)) >>= fun z => match z with
| .inr z => some z
| .inl _ =>
((if (decide ((x5.length : Int) ≥ 1)) = true then (
some (decide ((x5.length : Int) ≤ 8)))
else (
some false)) : Option Bool) >>= fun x1012 =>
((if x1012 = true then (
if (decide ((x2.length : Int) ≥ 1)) = true then (
if (decide ((x2.length : Int) ≤ 4000)) = true then (
F_slices_ContainsFunc_int_int_2 N x5 (x2.length : Int) >>= fun x1023 =>
some (!x1023))
else (
some false))
else (
some false))
else (
some false)) : Option Bool) >>= fun x1019 =>
some x1019
def F_marks_Marks_own (_N : Nat)  (_x3 : (List Int)) (_x6 : Int) : Option Unit :=
some ()
def F_math_bits_TrailingZeros64 (_N : Nat)  (x1 : Int) : Option Int :=
if (x1 == 0) = true then (
some 64)
else (
idx tab_math_bits_deBruijn64tab (shrI .u64 (IntKind.wrap .u64 ((iand .u64 x1 (IntKind.wrap .u64 (0 - x1))) * 285870213051353865)) 58) >>= fun x5 =>
some (IntKind.wrap .i64 x5))
def F_marks_Marks_After_l0 (N : Nat) (x3 : (List Int)) (x6 : Int) (x7 : Int) (x410 : Int) : Option (Int ⊕ (Unit ⊕ Int)) :=
F_marks_Marks_own N x3 x6 >>= fun _ =>
if (decide (x410 < (x3.length : Int))) = true then (
((idx x3 x410 >>= fun x479 =>
((if (x410 == (w64 ((w64 ((imax x7 (-1)) + 1)).tdiv 64))) = true then (
nn ((w64 ((imax x7 (-1)) + 1)).tmod 64) >>= fun _x490 =>
nn ((w64 ((imax x7 (-1)) + 1)).tmod 64) >>= fun _x491 =>
some (shlI .u64 (shrI .u64 x479 ((w64 ((imax x7 (-1)) + 1)).tmod 64)) ((w64 ((imax x7 (-1)) + 1)).tmod 64)))
else (
some x479)) : Option Int) >>= fun x488 =>
if (x488 != 0) = true then (
F_math_bits_TrailingZeros64 N x488 >>= fun x495 =>
some (.inr (.inr (.inr (w64 ((w64 (64 * x410)) + x495))))))
else (
some (.inl ()))) : Option (Unit ⊕ (Int ⊕ (Unit ⊕ Int)))) >>= fun z => match z with
| .inr z => some z
| .inl _ =>
some (.inl (w64 (x410 + 1))))
else (
some (.inr (.inl ())))
def F_marks_Marks_After (N : Nat)  (x3 : (List Int)) (x6 : Int) (x7 : Int) : Option Int :=
F_marks_Marks_Size N x3 x6 >>= fun _ =>
if (decide (x7 ≥ x6)) = true then (
some (-1))
else (
((iterO N (fun s => F_marks_Marks_After_l0 N x3 x6 x7 s) (w64 ((w64 ((imax x7 (-1)) + 1)).tdiv 64))) : Option (Unit ⊕ Int)) >>= fun z => match z with
| .inr z => some z
| .inl _ =>
some (-1))
def F_walk_walker_none (N : Nat)  (x2 : (List ((List Int) × (Int × Int × Int × Int) × Int × Int))) (_x5 : (List Int)) : Option (List Int) :=
F_marks_New N (x2.length : Int) >>= fun z => match z with
| .inl _ => (
none)
| .inr x29 => (
some x29)
def F_walk_walker_closed_1_l0 (N : Nat) (x2 : (List ((List Int) × (Int × Int × Int × Int) × Int × Int))) (x1651 : (List Int)) (x1654 : (List Int)) : Option (((List Int) × (List Int)) ⊕ ((List Int) × (List Int))) :=
if (decide ((x1651.length : Int) > 0)) = true then (
((idx x1651 (w64 ((x1651.length : Int) - 1)) >>= fun x1897 =>
slc x1651 0 (w64 ((x1651.length : Int) - 1)) >>= fun x1904 =>
F_marks_Marks_Put N x1654 (x2.length : Int) x1897 >>= fun (x1914, x1915) =>
((if x1915 = true then (
idx x2 x1897 >>= fun x1945 =>
app x1904 x1945.1 >>= fun x1958 =>
some x1958)
else (
some x1904)) : Option (List Int)) >>= fun x1942 =>
some (x1942, x1914)) : Option ((List Int) × (List Int))) >>= fun (x1891, x1894) =>
some (.inl (x1891, x1894)))
else (
some (.inr (x1651, x1654)))
def F_walk_walker_closed_1 (N : Nat)  (x2 : (List ((List Int) × (Int × Int × Int × Int) × Int × Int))) (x5 : (List Int)) (x8 : (List Int)) : Option ((List Int) × (List Int)) :=
F_walk_walker_none N x2 x5 >>= fun x1002 =>
((iterO N (fun s => F_walk_walker_closed_1_l0 N x2 s.1 s.2) (x8, x1002)) : Option ((List Int) × (List Int))) >>= fun (x1485, x1488) =>
some (x1485, x1488)
def F_walk_walker_begin (N : Nat)  (x2 : (List ((List Int) × (Int × Int × Int × Int) × Int × Int))) (x5 : (List Int)) (x7 : Int) : Option (List Int) :=
((if (decide (x7 < 0)) = true then (
some true)
else (
some (decide (x7 ≥ (x5.length : Int))))) : Option Bool) >>= fun x49 =>
if x49 = true then (
F_walk_walker_none N x2 x5 >>= fun x57 =>
some x57)
else (
idx x5 x7 >>= fun x60 =>
F_walk_walker_closed_1 N x2 x5 ([x60]) >>= fun (_x76, x77) =>
some x77)
def F_walk_walker_rule_l0 (N : Nat) (x2 : (List ((List Int) × (Int × Int × Int × Int) × Int × Int))) (x9 : (List Int)) (x12 : Int) (x603 : Int) (x604 : Int) : Option ((Int × Int) ⊕ Int) :=
((if (decide (x604 ≥ 0)) = true then (
some (decide (x604 < (x2.length : Int))))
else (
some false)) : Option Bool) >>= fun x665 =>
if x665 = true then (
((idx x2 x604 >>= fun x692 =>
((if (x692.2.2.2 != (-1)) = true then (
if (x603 == (-1)) = true then (
some true)
else (
some (decide (x692.2.2.2 < x603))))
else (
some false)) : Option Bool) >>= fun x708 =>
((if x708 = true then (
some x692.2.2.2)
else (
some x603)) : Option Int) >>= fun x711 =>
some x711) : Option Int) >>= fun x690 =>
F_marks_Marks_After N x9 x12 x604 >>= fun x717 =>
some (.inl (x690, x717)))
else (
some (.inr x603))
def F_walk_walker_rule (N : Nat)  (x2 : (List ((List Int) × (Int × Int × Int × Int) × Int × Int))) (_x5 : (List Int)) (x9 : (List Int)) (x12 : Int) : Option Int :=
F_marks_Marks_After N x9 x12 (-1) >>= fun x371 =>
((iterO N (fun s => F_walk_walker_rule_l0 N x2 x9 x12 s.1 s.2) ((-1), x371)) : Option Int) >>= fun x545 =>
some x545
def F_sets_Set_Has (_N : Nat)  (x1 : Int) (x2 : Int) (x3 : Int) (x4 : Int) (x5 : Int) : Option Bool :=
idx [x1, x2, x3, x4] (IntKind.wrap .u8 (x5.tdiv 64)) >>= fun x14 =>
nn (x5.tmod 64) >>= fun _x16 =>
some ((iand .u64 (shrI .u64 x14 (x5.tmod 64)) 1) == 1)
def F_walk_walker_step_l0 (N : Nat) (x2 : (List ((List Int) × (Int × Int × Int × Int) × Int × Int))) (x9 : (List Int)) (x12 : Int) (x13 : Int) (x1628 : (List Int)) (x1630 : Int) : Option (((List Int) × Int) ⊕ (List Int)) :=
((if (decide (x1630 ≥ 0)) = true then (
some (decide (x1630 < (x2.length : Int))))
else (
some false)) : Option Bool) >>= fun x1791 =>
if x1791 = true then (
((idx x2 x1630 >>= fun x1868 =>
F_sets_Set_Has N x1868.2.1.1 x1868.2.1.2.1 x1868.2.1.2.2.1 x1868.2.1.2.2.2 x13 >>= fun x1913 =>
((if x1913 = true then (
app x1628 ([x1868.2.2.1]) >>= fun x1930 =>
some x1930)
else (
some x1628)) : Option (List Int)) >>= fun x1925 =>
some x1925) : Option (List Int)) >>= fun x1865 =>
F_marks_Marks_After N x9 x12 x1630 >>= fun x1940 =>
some (.inl (x1865, x1940)))
else (
some (.inr x1628))
def F_walk_walker_step (N : Nat)  (x2 : (List ((List Int) × (Int × Int × Int × Int) × Int × Int))) (x5 : (List Int)) (x9 : (List Int)) (x12 : Int) (x13 : Int) : Option (List Int) :=
F_marks_Marks_After N x9 x12 (-1) >>= fun x991 =>
((iterO N (fun s => F_walk_walker_step_l0 N x2 x9 x12 x13 s.1 s.2) ([], x991)) : Option (List Int)) >>= fun x1467 =>
F_walk_walker_closed_1 N x2 x5 x1467 >>= fun (_x1950, x1951) =>
some x1951
def F_walk_walker_run (_N : Nat)  (_x2 : (List ((List Int) × (Int × Int × Int × Int) × Int × Int))) (_x5 : (List Int)) (_x7 : Int) (_x9 : (List Int)) : Option Unit :=
some ()
def F_walk_walker_run_1_l0 (N : Nat) {σ : Type} (Y : ((Int × Int) → σ → Option (σ × Bool))) (x3 : (List ((List Int) × (Int × Int × Int × Int) × Int × Int))) (x6 : (List Int)) (x12 : (List Int)) (x392 : σ) (x397 : (List Int)) (x399 : Int) : Option ((σ × (List Int) × Int) ⊕ (σ × Bool)) :=
F_walk_walker_rule N x3 x6 x397 (x3.length : Int) >>= fun x440 =>
Y (x399, x440) x392 >>= fun q442 =>
if q442.2 = true then (
if (decide (x399 < (x12.length : Int))) = true then (
idx x12 x399 >>= fun x447 =>
F_walk_walker_step N x3 x6 x397 (x3.length : Int) x447 >>= fun x459 =>
some (.inl (q442.1, x459, w64 (x399 + 1))))
else (
some (.inr (q442.1, true))))
else (
some (.inr (q442.1, false)))
def F_walk_walker_run_1 (N : Nat) {σ : Type}  (Y : (Int × Int) → σ → Option (σ × Bool)) (s0 : σ) (x3 : (List ((List Int) × (Int × Int × Int × Int) × Int × Int))) (x6 : (List Int)) (x9 : Int) (x12 : (List Int)) : Option (σ × Bool) :=
F_walk_walker_begin N x3 x6 x9 >>= fun x246 =>
((iterO N (fun s => F_walk_walker_run_1_l0 N Y x3 x6 x12 s.1 s.2.1 s.2.2) (s0, x246, 0)) : Option (σ × Bool)) >>= fun (x354, x355) =>
some (x354, x355)
def F_walk_Trace_r0 (_N : Nat) (_x93 : Int) (x94 : Int) (x110 : (List Int)) : Option ((List Int) × Bool) :=
app x110 ([x94]) >>= fun x133 =>
some (x133, true)
def F_walk_Trace (N : Nat)  (x2 : (List ((List Int) × (Int × Int × Int × Int) × Int × Int))) (x5 : (List Int)) (x7 : Int) (x9 : (List Int)) : Option (List Int) :=
F_nfa_Right N x2 x5 >>= fun x83 =>
if (!x83) = true then (
some ([]))
else (
F_walk_walker_run N x2 x5 x7 x9 >>= fun _ =>
F_walk_walker_run_1 N (fun x s => F_walk_Trace_r0 N x.1 x.2 s) ([]) x2 x5 x7 x9 >>= fun z => match z with
| (x110, true) => (
some x110)
| _ => none)
def F_walk_Run_l0 (_N : Nat) (x93 : (List Int)) (x139 : Int) (x140 : Int) : Option ((Int × Int) ⊕ Int) :=
if (decide (x139 < (x93.length : Int))) = true then (
idx x93 x139 >>= fun x154 =>
some (.inl (w64 (x139 + 1), x154)))
else (
some (.inr x140))
def F_walk_Run (N : Nat)  (x2 : (List ((List Int) × (Int × Int × Int × Int) × Int × Int))) (x5 : (List Int)) (x7 : Int) (x9 : (List Int)) : Option Int :=
F_walk_Trace N x2 x5 x7 x9 >>= fun x93 =>
((iterO N (fun s => F_walk_Run_l0 N x93 s.1 s.2) (0, (-1))) : Option Int) >>= fun x128 =>
some x128
def F_dofferref16_Closed_l2 (_N : Nat) (x64676 : Int) (x65605 : ((List Int) × (Int × Int × Int × Int) × Int × Int)) (x66229 : Int) (x66231 : (List Bool)) (x66233 : Bool) : Option ((Int × (List Bool) × Bool) ⊕ ((List Bool) × Bool)) :=
if (decide (x66229 < (x65605.1.length : Int))) = true then (
((idx x65605.1 x66229 >>= fun x66452 =>
((idx x66231 x64676 >>= fun x66475 =>
if x66475 = true then (
idx x66231 x66452 >>= fun x66482 =>
some (!x66482))
else (
some false)) : Option Bool) >>= fun x66473 =>
((if x66473 = true then (
idx x66231 x66452 >>= fun _x66506 =>
setI x66231 x66452 true >>= fun x66513 =>
some (x66513, true))
else (
some (x66231, x66233))) : Option ((List Bool) × Bool)) >>= fun (x66502, x66504) =>
some (x66502, x66504)) : Option ((List Bool) × Bool)) >>= fun (x66448, x66450) =>
some (.inl (w64 (x66229 + 1), x66448, x66450)))
else (
some (.inr (x66231, x66233)))
def F_dofferref16_Closed_l1 (N : Nat) (x2 : (List ((List Int) × (Int × Int × Int × Int) × Int × Int))) (x64676 : Int) (x64678 : (List Bool)) (x64680 : Bool) : Option ((Int × (List Bool) × Bool) ⊕ ((List Bool) × Bool)) :=
if (decide (x64676 < (x2.length : Int))) = true then (
idx x2 x64676 >>= fun x65605 =>
((iterO N (fun s => F_dofferref16_Closed_l2 N x64676 x65605 s.1 s.2.1 s.2.2) (0, x64678, x64680)) : Option ((List Bool) × Bool)) >>= fun (x66082, x66084) =>
some (.inl (w64 (x64676 + 1), x66082, x66084)))
else (
some (.inr (x64678, x64680)))
def F_dofferref16_Closed_l0 (N : Nat) (x2 : (List ((List Int) × (Int × Int × Int × Int) × Int × Int))) (x55442 : (List Bool)) (x55444 : Bool) : Option (((List Bool) × Bool) ⊕ (List Bool)) :=
if x55444 = true then (
((iterO N (fun s => F_dofferref16_Closed_l1 N x2 s.1 s.2.1 s.2.2) (0, x55442, false)) : Option ((List Bool) × Bool)) >>= fun (x63752, x63754) =>
some (.inl (x63752, x63754)))
else (
some (.inr x55442))
def F_dofferref16_Closed (N : Nat)  (x2 : (List ((List Int) × (Int × Int × Int × Int) × Int × Int))) (_x5 : (List Int)) (x8 : (List Bool)) : Option (List Bool) :=
app ([]) x8 >>= fun x33272 =>
((iterO N (fun s => F_dofferref16_Closed_l0 N x2 s.1 s.2) (x33272, true)) : Option (List Bool)) >>= fun x49900 =>
some x49900
def F_dofferref16_Rule_l0 (_N : Nat) (x2 : (List ((List Int) × (Int × Int × Int × Int) × Int × Int))) (x8 : (List Bool)) (x1342 : Int) (x1343 : Int) : Option ((Int × Int) ⊕ Int) :=
if (decide (x1342 < (x2.length : Int))) = true then (
((idx x2 x1342 >>= fun x1544 =>
((idx x8 x1342 >>= fun x1596 =>
if x1596 = true then (
if (decide (x1544.2.2.2 ≥ 0)) = true then (
if (decide (x1343 < 0)) = true then (
some true)
else (
some (decide (x1544.2.2.2 < x1343))))
else (
some false))
else (
some false)) : Option Bool) >>= fun x1594 =>
((if x1594 = true then (
some x1544.2.2.2)
else (
some x1343)) : Option Int) >>= fun x1604 =>
some x1604) : Option Int) >>= fun x1542 =>
some (.inl (w64 (x1342 + 1), x1542)))
else (
some (.inr x1343))
def F_dofferref16_Rule (N : Nat)  (x2 : (List ((List Int) × (Int × Int × Int × Int) × Int × Int))) (_x5 : (List Int)) (x8 : (List Bool)) : Option Int :=
((iterO N (fun s => F_dofferref16_Rule_l0 N x2 x8 s.1 s.2) (0, (-1))) : Option Int) >>= fun x1209 =>
some x1209
def F_dofferref16_Begin (N : Nat)  (x2 : (List ((List Int) × (Int × Int × Int × Int) × Int × Int))) (x5 : (List Int)) (x7 : Int) : Option (List Bool) :=
mk false (x2.length : Int) >>= fun x71 =>
((if (decide (x7 ≥ 0)) = true then (
some (decide (x7 < (x5.length : Int))))
else (
some false)) : Option Bool) >>= fun x75 =>
((if x75 = true then (
idx x5 x7 >>= fun x100 =>
idx x71 x100 >>= fun _x107 =>
setI x71 x100 true >>= fun x114 =>
some x114)
else (
some x71)) : Option (List Bool)) >>= fun x97 =>
F_dofferref16_Closed N x2 x5 x97 >>= fun x123 =>
some x123
def F_dofferref16_Step_l0 (_N : Nat) (x2 : (List ((List Int) × (Int × Int × Int × Int) × Int × Int))) (x8 : (List Bool)) (x10 : Int) (x2005 : Int) (x2007 : (List Bool)) : Option ((Int × (List Bool)) ⊕ (List Bool)) :=
if (decide (x2005 < (x2.length : Int))) = true then (
((idx x2 x2005 >>= fun x2305 =>
((idx x8 x2005 >>= fun x2360 =>
if x2360 = true then (
if (decide (x2305.2.2.1 ≥ 0)) = true then (
idx [x2305.2.1.1, x2305.2.1.2.1, x2305.2.1.2.2.1, x2305.2.1.2.2.2] (IntKind.wrap .u8 (x10.tdiv 64)) >>= fun x2367 =>
nn (x10.tmod 64) >>= fun _x2369 =>
some (((shrI .u64 x2367 (x10.tmod 64)).tmod 2) == 1))
else (
some false))
else (
some false)) : Option Bool) >>= fun x2358 =>
((if x2358 = true then (
idx x2007 x2305.2.2.1 >>= fun _x2386 =>
setI x2007 x2305.2.2.1 true >>= fun x2393 =>
some x2393)
else (
some x2007)) : Option (List Bool)) >>= fun x2383 =>
some x2383) : Option (List Bool)) >>= fun x2302 =>
some (.inl (w64 (x2005 + 1), x2302)))
else (
some (.inr x2007))
def F_dofferref16_Step (N : Nat)  (x2 : (List ((List Int) × (Int × Int × Int × Int) × Int × Int))) (x5 : (List Int)) (x8 : (List Bool)) (x10 : Int) : Option (List Bool) :=
mk false (x2.length : Int) >>= fun x1213 =>
((iterO N (fun s => F_dofferref16_Step_l0 N x2 x8 x10 s.1 s.2) (0, x1213)) : Option (List Bool)) >>= fun x1807 =>
F_dofferref16_Closed N x2 x5 x1807 >>= fun x2404 =>
some x2404
def F_walk_Longest_r0 (_N : Nat) (x12 : Int) (x176 : Int) (x177 : Int) (x206 : Int) (x207 : Int) : Option (((Int × Int) ⊕ (Int × Int)) × Bool) :=
((if (decide (x176 > x12)) = true then (
some (.inr (.inr (x206, x207), false)))
else (
((if (decide (x176 > 0)) = true then (
some (x177 != (-1)))
else (
some false)) : Option Bool) >>= fun x258 =>
((if x258 = true then (
some (x176, x177))
else (
some (x206, x207))) : Option (Int × Int)) >>= fun (x263, x264) =>
some (.inl (x263, x264)))) : Option ((Int × Int) ⊕ (((Int × Int) ⊕ (Int × Int)) × Bool))) >>= fun z => match z with
| .inr z => some z
| .inl (x255, x256) =>
some (.inl (x255, x256), true)
def F_walk_Longest (N : Nat)  (x2 : (List ((List Int) × (Int × Int × Int × Int) × Int × Int))) (x5 : (List Int)) (x7 : Int) (x9 : (List Int)) (x11 : Int) (x12 : Int) : Option (Int × Int) :=
((if (decide (x11 < 0)) = true then (
some true)
else (
if (decide (x11 > (x9.length : Int))) = true then (
some true)
else (
F_nfa_Right N x2 x5 >>= fun x162 =>
some (!x162)))) : Option Bool) >>= fun x158 =>
if x158 = true then (
some (0, (-1)))
else (
slc x9 x11 (x9.length : Int) >>= fun x165 =>
F_walk_walker_run N x2 x5 x7 x165 >>= fun _ =>
F_walk_walker_run_1 N (YS (σ1 := (Int × Int)) (σ2 := (Int × Int)) (fun x s => F_walk_Longest_r0 N x12 x.1 x.2 s.1 s.2)) (.inl (0, (-1))) x2 x5 x7 x165 >>= fun z => match z with
| (.inl (x206, x207), true) => (
some (x206, x207))
| (.inr (x236, x237), false) => (
some (x236, x237))
| _ => none)
def F_dofferref16_Trace_l0 (N : Nat) (x2 : (List ((List Int) × (Int × Int × Int × Int) × Int × Int))) (x5 : (List Int)) (x9 : (List Int)) (x420 : Int) (x423 : (List Bool)) (x427 : (List Int)) : Option ((Int × (List Bool) × (List Int)) ⊕ (List Int)) :=
if (decide (x420 < (x9.length : Int))) = true then (
idx x9 x420 >>= fun x468 =>
F_dofferref16_Step N x2 x5 x423 x468 >>= fun x479 =>
F_dofferref16_Rule N x2 x5 x479 >>= fun x484 =>
app x427 ([x484]) >>= fun x488 =>
some (.inl (w64 (x420 + 1), x479, x488)))
else (
some (.inr x427))
def F_dofferref16_Trace (N : Nat)  (x2 : (List ((List Int) × (Int × Int × Int × Int) × Int × Int))) (x5 : (List Int)) (x7 : Int) (x9 : (List Int)) : Option (List Int) :=
F_dofferref16_Begin N x2 x5 x7 >>= fun x262 =>
F_dofferref16_Rule N x2 x5 x262 >>= fun x267 =>
((iterO N (fun s => F_dofferref16_Trace_l0 N x2 x5 x9 s.1 s.2.1 s.2.2) (0, x262, [x267])) : Option (List Int)) >>= fun x382 =>
some x382
def F_dofferlaw16_WalkRuns_l0 (_N : Nat) (x12 : Int) (x1099 : (List Int)) (x1301 : Int) (x1302 : Int) (x1303 : Int) : Option ((Int × Int × Int) ⊕ (Int × Int)) :=
if (decide (x1303 < (x1099.length : Int))) = true then (
((idx x1099 x1303 >>= fun x1360 =>
((if (decide (x1303 > 0)) = true then (
if (decide (x1303 ≤ x12)) = true then (
some (decide (x1360 ≥ 0)))
else (
some false))
else (
some false)) : Option Bool) >>= fun x1367 =>
((if x1367 = true then (
some (x1303, x1360))
else (
some (x1301, x1302))) : Option (Int × Int)) >>= fun (x1370, x1371) =>
some (x1370, x1371)) : Option (Int × Int)) >>= fun (x1357, x1358) =>
some (.inl (x1357, x1358, w64 (x1303 + 1))))
else (
some (.inr (x1301, x1302)))
def F_dofferlaw16_WalkRuns (N : Nat)  (x2 : (List ((List Int) × (Int × Int × Int × Int) × Int × Int))) (x5 : (List Int)) (x8 : (List Int)) (x10 : Int) (x11 : Int) (x12 : Int) : Option Bool :=
F_dofferlaw15_Of N x2 x5 40 >>= fun (x706, x707) =>
((if (!x707) = true then (
some true)
else (
some (decide ((x8.length : Int) > 30)))) : Option Bool) >>= fun x713 =>
if x713 = true then (
some true)
else (
F_walk_Longest N x2 x5 x10 x8 x11 x12 >>= fun (x718, x719) =>
F_dofferref15_Right N x706 x5 >>= fun x724 =>
if (!x724) = true then (
((if (x718 == 0) = true then (
some (x719 == (-1)))
else (
some false)) : Option Bool) >>= fun x726 =>
some x726)
else (
F_dofferref16_Trace N x706 x5 x10 x8 >>= fun x733 =>
((F_walk_Trace N x2 x5 x10 x8 >>= fun x776 =>
F_doffernum_SameInts N x776 x733 >>= fun x782 =>
if (!x782) = true then (
some true)
else (
idx x733 (w64 ((x733.length : Int) - 1)) >>= fun x784 =>
F_walk_Run N x2 x5 x10 x8 >>= fun x793 =>
some (x793 != x784))) : Option Bool) >>= fun x765 =>
if x765 = true then (
some false)
else (
((if (decide (x11 ≥ 0)) = true then (
some (decide (x11 ≤ (x8.length : Int))))
else (
some false)) : Option Bool) >>= fun x798 =>
((if x798 = true then (
slc x8 x11 (x8.length : Int) >>= fun x1090 =>
F_dofferref16_Trace N x706 x5 x10 x1090 >>= fun x1099 =>
((iterO N (fun s => F_dofferlaw16_WalkRuns_l0 N x12 x1099 s.1 s.2.1 s.2.2) (0, (-1), 0)) : Option (Int × Int)) >>= fun (x1237, x1238) =>
some (x1237, x1238))
else (
some (0, (-1)))) : Option (Int × Int)) >>= fun (x1087, x1088) =>
((if (x718 == x1087) = true then (
some (x719 == x1088))
else (
some false)) : Option Bool) >>= fun x1377 =>
some x1377)))
end Go.Proofs.YtealkahefalaeaaGreatDoor
