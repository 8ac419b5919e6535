/-
  The pure functions, printed by my program: what each function of the code computes.
-/
import Derived.Test.YtealkahefalaeaaGreatDoorNfaBytesE3
namespace Go.Proofs.YtealkahefalaeaaGreatDoor
open Go Go.Eng
set_option maxRecDepth 100000
def tab_math_bits_deBruijn64tab : List Int := [0, 1, 56, 2, 57, 49, 28, 3, 61, 58, 42, 50, 38, 29, 17, 4, 62, 47, 59, 36, 45, 43, 51, 22, 53, 39, 33, 30, 24, 18, 12, 5, 63, 55, 48, 27, 60, 41, 37, 16, 46, 35, 44, 21, 52, 32, 23, 11, 54, 26, 40, 15, 34, 20, 31, 10, 25, 14, 19, 9, 13, 8, 7, 6]
def errIds : List Nat := [0, 1, 2, 3, 4, 5, 6, 7, 8, 12, 14]
def F_dofferlaw15_Of_l0 (_N : Nat) (x2 : (List ((List Int) × (Int × Int × Int × Int) × Int × Int))) (x639 : Int) (x642 : (List ((List Int) × (Int × Int × Int × Int) × Int × Int))) : Option ((Int × (List ((List Int) × (Int × Int × Int × Int) × Int × Int))) ⊕ ((List ((List Int) × (Int × Int × Int × Int) × Int × Int)) ⊕ ((List ((List Int) × (Int × Int × Int × Int) × Int × Int)) × Bool))) :=
if (decide (x639 < (x2.length : Int))) = true then (
idx x2 x639 >>= fun x706 =>
if (decide ((x706.1.length : Int) > 100)) = true then (
some (.inr (.inr (x642, false))))
else (
app x642 ([(x706.1, (x706.2.1.1, x706.2.1.2.1, x706.2.1.2.2.1, x706.2.1.2.2.2), x706.2.2.1, x706.2.2.2)]) >>= fun x752 =>
some (.inl (w64 (x639 + 1), x752))))
else (
some (.inr (.inl x642)))
def F_dofferlaw15_Of (N : Nat)  (x2 : (List ((List Int) × (Int × Int × Int × Int) × Int × Int))) (x5 : (List Int)) (x7 : Int) : Option ((List ((List Int) × (Int × Int × Int × Int) × Int × Int)) × Bool) :=
((if (decide ((x5.length : Int) > 20)) = true then (
some true)
else (
some (decide ((x2.length : Int) > x7)))) : Option Bool) >>= fun x394 =>
if x394 = true then (
some ([], false))
else (
((iterO N (fun s => F_dofferlaw15_Of_l0 N x2 s.1 s.2) (0, [])) : Option ((List ((List Int) × (Int × Int × Int × Int) × Int × Int)) ⊕ ((List ((List Int) × (Int × Int × Int × Int) × Int × Int)) × Bool))) >>= fun z => match z with
| .inr z => some z
| .inl x578 =>
some (x578, true))
def F_dofferref15_Right_l0 (_N : Nat) (x2 : (List ((List Int) × (Int × Int × Int × Int) × Int × Int))) (x5 : (List Int)) (x891 : Int) : Option (Int ⊕ (Unit ⊕ Bool)) :=
if (decide (x891 < (x5.length : Int))) = true then (
idx x5 x891 >>= fun x907 =>
((if (decide (x907 < 0)) = true then (
some true)
else (
some (decide (x907 ≥ (x2.length : Int))))) : Option Bool) >>= fun x914 =>
if x914 = true then (
some (.inr (.inr false)))
else (
some (.inl (w64 (x891 + 1)))))
else (
some (.inr (.inl ())))
def F_dofferref15_Right_l2 (_N : Nat) (x2 : (List ((List Int) × (Int × Int × Int × Int) × Int × Int))) (x1543 : ((List Int) × (Int × Int × Int × Int) × Int × Int)) (x1638 : Int) : Option (Int ⊕ (Unit ⊕ (Int ⊕ (Unit ⊕ Bool)))) :=
if (decide (x1638 < (x1543.1.length : Int))) = true then (
idx x1543.1 x1638 >>= fun x1654 =>
((if (decide (x1654 < 0)) = true then (
some true)
else (
some (decide (x1654 ≥ (x2.length : Int))))) : Option Bool) >>= fun x1661 =>
if x1661 = true then (
some (.inr (.inr (.inr (.inr false)))))
else (
some (.inl (w64 (x1638 + 1)))))
else (
some (.inr (.inl ())))
def F_dofferref15_Right_l1 (N : Nat) (x2 : (List ((List Int) × (Int × Int × Int × Int) × Int × Int))) (x1415 : Int) : Option (Int ⊕ (Unit ⊕ Bool)) :=
if (decide (x1415 < (x2.length : Int))) = true then (
idx x2 x1415 >>= fun x1543 =>
((if (decide (x1543.2.2.1 < (-1))) = true then (
some true)
else (
if (decide (x1543.2.2.1 ≥ (x2.length : Int))) = true then (
some true)
else (
if (decide (x1543.2.2.2 < (-1))) = true then (
some true)
else (
if (decide (x1543.2.2.2 > 47)) = true then (
some true)
else (
if (x1543.2.2.1 == (-1)) = true then (
some (([x1543.2.1.1, x1543.2.1.2.1, x1543.2.1.2.2.1, x1543.2.1.2.2.2] : List Int) != ([0, 0, 0, 0] : List Int)))
else (
some false)))))) : Option Bool) >>= fun x1586 =>
if x1586 = true then (
some (.inr (.inr false)))
else (
((iterO N (fun s => F_dofferref15_Right_l2 N x2 x1543 s) 0) : Option (Unit ⊕ (Int ⊕ (Unit ⊕ Bool)))) >>= fun z => match z with
| .inr z => some z
| .inl _ =>
some (.inl (w64 (x1415 + 1)))))
else (
some (.inr (.inl ())))
def F_dofferref15_Right (N : Nat)  (x2 : (List ((List Int) × (Int × Int × Int × Int) × Int × Int))) (x5 : (List Int)) : Option Bool :=
((if (decide ((x2.length : Int) < 1)) = true then (
some true)
else (
if (decide ((x2.length : Int) > 4000)) = true then (
some true)
else (
if (decide ((x5.length : Int) < 1)) = true then (
some true)
else (
some (decide ((x5.length : Int) > 8)))))) : Option Bool) >>= fun x839 =>
if x839 = true then (
some false)
else (
((iterO N (fun s => F_dofferref15_Right_l0 N x2 x5 s) 0) : Option (Unit ⊕ Bool)) >>= fun z => match z with
| .inr z => some z
| .inl _ =>
((iterO N (fun s => F_dofferref15_Right_l1 N x2 s) 0) : Option (Unit ⊕ Bool)) >>= fun z => match z with
| .inr z => some z
| .inl _ =>
some true)
def F_sets_Set_Empty (_N : Nat)  (_x1 : Int) (_x2 : Int) (_x3 : Int) (_x4 : Int) : Option Unit :=
some ()
def F_nfa_Right_1 (_N : Nat)  (x1 : Int) (x3 : Int) : Option Bool :=
((if (decide (x1 < 0)) = true then (
some true)
else (
some (decide (x1 ≥ x3)))) : Option Bool) >>= fun x8 =>
some x8
def F_slices_IndexFunc_int_int_2_l0 (N : Nat) (x2 : (List Int)) (x5 : Int) (x142 : Int) : Option (Int ⊕ (Unit ⊕ Int)) :=
if (decide (x142 < (x2.length : Int))) = true then (
idx x2 x142 >>= fun x159 =>
F_nfa_Right_1 N x159 x5 >>= fun x168 =>
if x168 = true then (
some (.inr (.inr x142)))
else (
some (.inl (w64 (x142 + 1)))))
else (
some (.inr (.inl ())))
def F_slices_IndexFunc_int_int_2 (N : Nat)  (x2 : (List Int)) (x5 : Int) : Option Int :=
((iterO N (fun s => F_slices_IndexFunc_int_int_2_l0 N x2 x5 s) 0) : Option (Unit ⊕ Int)) >>= fun z => match z with
| .inr z => some z
| .inl _ =>
some (-1)
def F_slices_ContainsFunc_int_int_2 (N : Nat)  (x2 : (List Int)) (x5 : Int) : Option Bool :=
F_slices_IndexFunc_int_int_2 N x2 x5 >>= fun x13 =>
some (decide (x13 ≥ 0))
def F_nfa_Right_l0 (N : Nat) (x2 : (List ((List Int) × (Int × Int × Int × Int) × Int × Int))) (x847 : Int) : Option (Int ⊕ (Unit ⊕ Bool)) :=
if (decide (x847 < (x2.length : Int))) = true then (
idx x2 x847 >>= fun x932 =>
((if (x932.2.2.1 == (-1)) = true then (
F_sets_Set_Empty N x932.2.1.1 x932.2.1.2.1 x932.2.1.2.2.1 x932.2.1.2.2.2 >>= fun _ =>
if (([x932.2.1.1, x932.2.1.2.1, x932.2.1.2.2.1, x932.2.1.2.2.2] : List Int) == ([0, 0, 0, 0] : List Int)) = true then (
some true)
else (
F_nfa_Right_1 N x932.2.2.1 (x2.length : Int) >>= fun x993 =>
some (!x993)))
else (
F_nfa_Right_1 N x932.2.2.1 (x2.length : Int) >>= fun x997 =>
some (!x997))) : Option Bool) >>= fun x986 =>
((if (!x986) = true then (
some true)
else (
F_slices_ContainsFunc_int_int_2 N x932.1 (x2.length : Int) >>= fun x1008 =>
if x1008 = true then (
some true)
else (
if (decide (x932.2.2.2 < (-1))) = true then (
some true)
else (
some (decide (x932.2.2.2 ≥ 48)))))) : Option Bool) >>= fun x1004 =>
if x1004 = true then (
some (.inr (.inr false)))
else (
some (.inl (w64 (x847 + 1)))))
else (
some (.inr (.inl ())))
def F_nfa_Right (N : Nat)  (x2 : (List ((List Int) × (Int × Int × Int × Int) × Int × Int))) (x5 : (List Int)) : Option Bool :=
((iterO N (fun s => F_nfa_Right_l0 N x2 s) 0) : Option (Unit ⊕ Bool)) >>= fun z => match z with
| .inr z => some z
| .inl _ =>
((if (decide ((x5.length : Int) ≥ 1)) = true then (
some (decide ((x5.length : Int) ≤ 8)))
else (
some false)) : Option Bool) >>= fun x1012 =>
((if x1012 = true then (
if (decide ((x2.length : Int) ≥ 1)) = true then (
if (decide ((x2.length : Int) ≤ 4000)) = true then (
F_slices_ContainsFunc_int_int_2 N x5 (x2.length : Int) >>= fun x1023 =>
some (!x1023))
else (
some false))
else (
some false))
else (
some false)) : Option Bool) >>= fun x1019 =>
some x1019
def F_math_bits_TrailingZeros64 (_N : Nat)  (x1 : Int) : Option Int :=
if (x1 == 0) = true then (
some 64)
else (
idx tab_math_bits_deBruijn64tab (shrI .u64 (IntKind.wrap .u64 ((iand .u64 x1 (IntKind.wrap .u64 (0 - x1))) * 285870213051353865)) 58) >>= fun x5 =>
some (IntKind.wrap .i64 x5))
def F_sets_Set_Not_l0 (_N : Nat) (x171 : Int) (x172 : Int) (x173 : Int) (x174 : Int) (x175 : Int) : Option ((Int × Int × Int × Int × Int) ⊕ (Int × Int × Int × Int)) :=
if (decide (x175 < 4)) = true then (
idx [x171, x172, x173, x174] x175 >>= fun x191 =>
idx [x171, x172, x173, x174] x175 >>= fun _x193 =>
setI [x171, x172, x173, x174] x175 (inv .u64 x191) >>= fun x195 =>
some (.inl (x195.getD 0 0, x195.getD 1 0, x195.getD 2 0, x195.getD 3 0, w64 (x175 + 1))))
else (
some (.inr (x171, x172, x173, x174)))
def F_sets_Set_Not (N : Nat)  (x1 : Int) (x2 : Int) (x3 : Int) (x4 : Int) : Option (Int × Int × Int × Int) :=
((iterO N (fun s => F_sets_Set_Not_l0 N s.1 s.2.1 s.2.2.1 s.2.2.2.1 s.2.2.2.2) (x1, x2, x3, x4, 0)) : Option (Int × Int × Int × Int)) >>= fun (x150, x151, x152, x153) =>
some (x150, x151, x152, x153)
def F_sets_All (N : Nat)  : Option (Int × Int × Int × Int) :=
F_sets_Set_Not N 0 0 0 0 >>= fun (x19, x20, x21, x22) =>
some (x19, x20, x21, x22)
def F_sets_Set_And_l0 (_N : Nat) (x5 : Int) (x6 : Int) (x7 : Int) (x8 : Int) (x352 : Int) (x353 : Int) (x354 : Int) (x355 : Int) (x356 : Int) : Option ((Int × Int × Int × Int × Int) ⊕ (Int × Int × Int × Int)) :=
if (decide (x356 < 4)) = true then (
((idx [x352, x353, x354, x355] x356 >>= fun x401 =>
idx [x5, x6, x7, x8] x356 >>= fun x403 =>
idx [x352, x353, x354, x355] x356 >>= fun _x405 =>
setI [x352, x353, x354, x355] x356 (iand .u64 x401 x403) >>= fun x407 =>
some (x407.getD 0 0, x407.getD 1 0, x407.getD 2 0, x407.getD 3 0)) : Option (Int × Int × Int × Int)) >>= fun (x396, x397, x398, x399) =>
some (.inl (x396, x397, x398, x399, w64 (x356 + 1))))
else (
some (.inr (x352, x353, x354, x355)))
def F_sets_Set_And (N : Nat)  (x1 : Int) (x2 : Int) (x3 : Int) (x4 : Int) (x5 : Int) (x6 : Int) (x7 : Int) (x8 : Int) : Option (Int × Int × Int × Int) :=
((iterO N (fun s => F_sets_Set_And_l0 N x5 x6 x7 x8 s.1 s.2.1 s.2.2.1 s.2.2.2.1 s.2.2.2.2) (x1, x2, x3, x4, 0)) : Option (Int × Int × Int × Int)) >>= fun (x312, x313, x314, x315) =>
some (x312, x313, x314, x315)
def F_sets_Set_Minus (N : Nat)  (x1 : Int) (x2 : Int) (x3 : Int) (x4 : Int) (x5 : Int) (x6 : Int) (x7 : Int) (x8 : Int) : Option (Int × Int × Int × Int) :=
((F_sets_Set_Not N x5 x6 x7 x8 >>= fun (x83, x84, x85, x86) =>
F_sets_Set_And N x1 x2 x3 x4 x83 x84 x85 x86 >>= fun (x90, x91, x92, x93) =>
some (x90, x91, x92, x93)) : Option (Int × Int × Int × Int)) >>= fun (x76, x77, x78, x79) =>
some (x76, x77, x78, x79)
def F_sets_Set_all (_N : Nat)  (_x1 : Int) (_x2 : Int) (_x3 : Int) (_x4 : Int) : Option Unit :=
some ()
def F_sets_Set_all_1_l1 (N : Nat) {σ : Type} (Y : (Int → σ → Option (σ × Bool))) (x1024 : Int) (x1192 : σ) (x1194 : Int) : Option ((σ × Int) ⊕ (σ ⊕ ((σ × Int) ⊕ (σ ⊕ (σ × Bool))))) :=
if (x1194 != 0) = true then (
F_math_bits_TrailingZeros64 N x1194 >>= fun x1215 =>
Y (w64 ((w64 (64 * x1024)) + x1215)) x1192 >>= fun q1217 =>
if (!q1217.2) = true then (
some (.inr (.inr (.inr (.inr (q1217.1, false))))))
else (
some (.inl (q1217.1, iand .u64 x1194 (IntKind.wrap .u64 (x1194 - 1))))))
else (
some (.inr (.inl x1192)))
def F_sets_Set_all_1_l0 (N : Nat) {σ : Type} (Y : (Int → σ → Option (σ × Bool))) (x2 : Int) (x3 : Int) (x4 : Int) (x5 : Int) (x1022 : σ) (x1024 : Int) : Option ((σ × Int) ⊕ (σ ⊕ (σ × Bool))) :=
if (decide (x1024 < 4)) = true then (
idx [x2, x3, x4, x5] x1024 >>= fun x1129 =>
((iterO N (fun s => F_sets_Set_all_1_l1 N Y x1024 s.1 s.2) (x1022, x1129)) : Option (σ ⊕ ((σ × Int) ⊕ (σ ⊕ (σ × Bool))))) >>= fun z => match z with
| .inr z => some z
| .inl x1175 =>
some (.inl (x1175, w64 (x1024 + 1))))
else (
some (.inr (.inl x1022)))
def F_sets_Set_all_1 (N : Nat) {σ : Type}  (Y : Int → σ → Option (σ × Bool)) (s0 : σ) (x2 : Int) (x3 : Int) (x4 : Int) (x5 : Int) : Option (σ × Bool) :=
((iterO N (fun s => F_sets_Set_all_1_l0 N Y x2 x3 x4 x5 s.1 s.2) (s0, 0)) : Option (σ ⊕ (σ × Bool))) >>= fun z => match z with
| .inr z => some z
| .inl x920 =>
some (x920, true)
def F_sets_Set_Nth_r0 (_N : Nat) (x56 : Int) (x60 : Int) : Option ((Int ⊕ Int) × Bool) :=
if (x60 == 0) = true then (
some (.inr x56, false))
else (
some (.inl (w64 (x60 - 1)), true))
def F_sets_Set_Nth (N : Nat)  (x1 : Int) (x2 : Int) (x3 : Int) (x4 : Int) (x5 : Int) : Option Int :=
((if (decide (x5 < 0)) = true then (
some true)
else (
some (decide (x5 ≥ 256)))) : Option Bool) >>= fun x48 =>
if x48 = true then (
some (-1))
else (
F_sets_Set_all N x1 x2 x3 x4 >>= fun _ =>
F_sets_Set_all_1 N (YS (σ1 := Int) (σ2 := Int) (fun x s => F_sets_Set_Nth_r0 N x s)) (.inl x5) x1 x2 x3 x4 >>= fun z => match z with
| (.inl _x60, true) => (
some (-1))
| (.inr x64, false) => (
some x64)
| _ => none)
def F_sets_Set_Least (N : Nat)  (x1 : Int) (x2 : Int) (x3 : Int) (x4 : Int) : Option Int :=
F_sets_Set_Nth N x1 x2 x3 x4 0 >>= fun x17 =>
some x17
def F_cmp_isNaN_int (_N : Nat)  (_x1 : Int) : Option Unit :=
some ()
def F_cmp_Compare_int (N : Nat)  (x1 : Int) (x2 : Int) : Option Int :=
F_cmp_isNaN_int N x1 >>= fun _ =>
F_cmp_isNaN_int N x2 >>= fun _ =>
if (x1 != x1) = true then (
if (x2 != x2) = true then (
some 0)
else (
some (-1)))
else (
if (x2 != x2) = true then (
some 1)
else (
if (decide (x1 < x2)) = true then (
some (-1))
else (
if (decide (x1 > x2)) = true then (
some 1)
else (
some 0))))
def F_nfa_Bytes_1 (N : Nat)  (x1 : Int) (x2 : Int) (x3 : Int) (x4 : Int) (x5 : Int) (x6 : Int) (x7 : Int) (x8 : Int) : Option Int :=
F_sets_Set_Least N x1 x2 x3 x4 >>= fun x34 =>
F_sets_Set_Least N x5 x6 x7 x8 >>= fun x39 =>
F_cmp_Compare_int N x34 x39 >>= fun x44 =>
some x44
def F_nfa_Bytes_l2 (N : Nat) (x69463 : Int) (x69464 : Int) (x69465 : Int) (x69466 : Int) (x69470 : Int) (x69471 : Int) (x69472 : Int) (x69473 : Int) (x69760 : Int) (x69763 : (List (Int × Int × Int × Int))) : Option ((Int × (List (Int × Int × Int × Int))) ⊕ (List (Int × Int × Int × Int))) :=
if (decide (x69760 < 2)) = true then (
((idx [(x69463, x69464, x69465, x69466), (x69470, x69471, x69472, x69473)] x69760 >>= fun x69872 =>
F_sets_Set_Empty N x69872.1 x69872.2.1 x69872.2.2.1 x69872.2.2.2 >>= fun _ =>
((if (!(([x69872.1, x69872.2.1, x69872.2.2.1, x69872.2.2.2] : List Int) == ([0, 0, 0, 0] : List Int))) = true then (
app x69763 ([(x69872.1, x69872.2.1, x69872.2.2.1, x69872.2.2.2)]) >>= fun x69894 =>
some x69894)
else (
some x69763)) : Option (List (Int × Int × Int × Int))) >>= fun x69889 =>
some x69889) : Option (List (Int × Int × Int × Int))) >>= fun x69869 =>
some (.inl (w64 (x69760 + 1), x69869)))
else (
some (.inr x69763))
def F_nfa_Bytes_l1 (N : Nat) (x58266 : (List (Int × Int × Int × Int))) (x67001 : ((List Int) × (Int × Int × Int × Int) × Int × Int)) (x68955 : Int) (x68958 : (List (Int × Int × Int × Int))) : Option ((Int × (List (Int × Int × Int × Int))) ⊕ (List (Int × Int × Int × Int))) :=
if (decide (x68955 < (x58266.length : Int))) = true then (
idx x58266 x68955 >>= fun x69436 =>
F_sets_Set_And N x69436.1 x69436.2.1 x69436.2.2.1 x69436.2.2.2 x67001.2.1.1 x67001.2.1.2.1 x67001.2.1.2.2.1 x67001.2.1.2.2.2 >>= fun (x69463, x69464, x69465, x69466) =>
F_sets_Set_Minus N x69436.1 x69436.2.1 x69436.2.2.1 x69436.2.2.2 x67001.2.1.1 x67001.2.1.2.1 x67001.2.1.2.2.1 x67001.2.1.2.2.2 >>= fun (x69470, x69471, x69472, x69473) =>
((iterO N (fun s => F_nfa_Bytes_l2 N x69463 x69464 x69465 x69466 x69470 x69471 x69472 x69473 s.1 s.2) (0, x68958)) : Option (List (Int × Int × Int × Int))) >>= fun x69688 =>
some (.inl (w64 (x68955 + 1), x69688)))
else (
some (.inr x68958))
def F_nfa_Bytes_l0 (N : Nat) (x2 : (List ((List Int) × (Int × Int × Int × Int) × Int × Int))) (x58263 : Int) (x58266 : (List (Int × Int × Int × Int))) (x58268 : (List ((List Int) × Int))) : Option ((Int × (List (Int × Int × Int × Int)) × (List ((List Int) × Int))) ⊕ (List (Int × Int × Int × Int))) :=
if (decide (x58263 < (x2.length : Int))) = true then (
((idx x2 x58263 >>= fun x67001 =>
if (decide (((mget x58268 ([x67001.2.1.1, x67001.2.1.2.1, x67001.2.1.2.2.1, x67001.2.1.2.2.2])).getD 0) > 0)) = true then (
some (x58266, x58268))
else (
((some ()) : Option Unit) >>= fun _ =>
((iterO N (fun s => F_nfa_Bytes_l1 N x58266 x67001 s.1 s.2) (0, [])) : Option (List (Int × Int × Int × Int))) >>= fun x68480 =>
some (x68480, (mset (mset x58268 ([x67001.2.1.1, x67001.2.1.2.1, x67001.2.1.2.2.1, x67001.2.1.2.2.2]) ((mget x58268 ([x67001.2.1.1, x67001.2.1.2.1, x67001.2.1.2.2.1, x67001.2.1.2.2.2])).getD 0)) ([x67001.2.1.1, x67001.2.1.2.1, x67001.2.1.2.2.1, x67001.2.1.2.2.2]) (w64 (((mget x58268 ([x67001.2.1.1, x67001.2.1.2.1, x67001.2.1.2.2.1, x67001.2.1.2.2.2])).getD 0) + 1)))))) : Option ((List (Int × Int × Int × Int)) × (List ((List Int) × Int)))) >>= fun (x66997, x66999) =>
some (.inl (w64 (x58263 + 1), x66997, x66999)))
else (
some (.inr x58266))
noncomputable def F_nfa_Bytes (N : Nat)  (x2 : (List ((List Int) × (Int × Int × Int × Int) × Int × Int))) (x5 : (List Int)) : Option (List (Int × Int × Int × Int)) :=
F_nfa_Right N x2 x5 >>= fun x34965 =>
if (!x34965) = true then (
some ([]))
else (
F_sets_All N >>= fun (x34969, x34970, x34971, x34972) =>
((iterO N (fun s => F_nfa_Bytes_l0 N x2 s.1 s.2.1 s.2.2) (0, [(x34969, x34970, x34971, x34972)], ([] : List ((List Int) × Int)))) : Option (List (Int × Int × Int × Int))) >>= fun x52441 =>
sortF (fun a b => F_nfa_Bytes_1 N a.1 a.2.1 a.2.2.1 a.2.2.2 b.1 b.2.1 b.2.2.1 b.2.2.2) x52441 >>= fun x69906 =>
some x69906)
def F_dofferref01_Has (_N : Nat)  (x1 : Int) (x2 : Int) (x3 : Int) (x4 : Int) (x5 : Int) : Option Bool :=
idx [x1, x2, x3, x4] (w64 (x5.tdiv 64)) >>= fun x15 =>
nn (IntKind.wrap .u64 (x5.tmod 64)) >>= fun _x17 =>
nz (shlI .u64 1 (IntKind.wrap .u64 (x5.tmod 64))) >>= fun _x18 =>
some (((IntKind.wrap .u64 (x15.tdiv (shlI .u64 1 (IntKind.wrap .u64 (x5.tmod 64))))).tmod 2) == 1)
def F_dofferref01_Of_l0 (_N : Nat) (x2 : (List Bool)) (x692 : Int) (x693 : Int) (x694 : Int) (x695 : Int) (x696 : Int) : Option ((Int × Int × Int × Int × Int) ⊕ (Int × Int × Int × Int)) :=
if (decide (x696 < 256)) = true then (
((idx x2 x696 >>= fun x798 =>
((if x798 = true then (
idx [x692, x693, x694, x695] (w64 (x696.tdiv 64)) >>= fun x817 =>
nn (IntKind.wrap .u64 (x696.tmod 64)) >>= fun _x819 =>
idx [x692, x693, x694, x695] (w64 (x696.tdiv 64)) >>= fun _x820 =>
setI [x692, x693, x694, x695] (w64 (x696.tdiv 64)) (IntKind.wrap .u64 (x817 + (shlI .u64 1 (IntKind.wrap .u64 (x696.tmod 64))))) >>= fun x822 =>
some (x822.getD 0 0, x822.getD 1 0, x822.getD 2 0, x822.getD 3 0))
else (
some (x692, x693, x694, x695))) : Option (Int × Int × Int × Int)) >>= fun (x812, x813, x814, x815) =>
some (x812, x813, x814, x815)) : Option (Int × Int × Int × Int)) >>= fun (x793, x794, x795, x796) =>
some (.inl (x793, x794, x795, x796, w64 (x696 + 1))))
else (
some (.inr (x692, x693, x694, x695)))
def F_dofferref01_Of (N : Nat)  (x2 : (List Bool)) : Option (Int × Int × Int × Int) :=
((iterO N (fun s => F_dofferref01_Of_l0 N x2 s.1 s.2.1 s.2.2.1 s.2.2.2.1 s.2.2.2.2) (0, 0, 0, 0, 0)) : Option (Int × Int × Int × Int)) >>= fun (x622, x623, x624, x625) =>
some (x622, x623, x624, x625)
def F_dofferref15_Bytes_l2 (N : Nat) (x2 : (List ((List Int) × (Int × Int × Int × Int) × Int × Int))) (x101931 : Int) (x121782 : Int) (x122057 : Int) (x122058 : Bool) : Option ((Int × Bool) ⊕ Bool) :=
if (decide (x122057 < (x2.length : Int))) = true then (
idx x2 x122057 >>= fun x122127 =>
((if x122058 = true then (
F_dofferref01_Has N x122127.2.1.1 x122127.2.1.2.1 x122127.2.1.2.2.1 x122127.2.1.2.2.2 x101931 >>= fun x122182 =>
F_dofferref01_Has N x122127.2.1.1 x122127.2.1.2.1 x122127.2.1.2.2.1 x122127.2.1.2.2.2 x121782 >>= fun x122186 =>
some (x122182 == x122186))
else (
some false)) : Option Bool) >>= fun x122178 =>
some (.inl (w64 (x122057 + 1), x122178)))
else (
some (.inr x122058))
def F_dofferref15_Bytes_l1 (N : Nat) (x2 : (List ((List Int) × (Int × Int × Int × Int) × Int × Int))) (x101926 : (List Int)) (x101931 : Int) (x120527 : Int) (x120528 : Int) : Option ((Int × Int) ⊕ Int) :=
if (decide (x120527 < (x101926.length : Int))) = true then (
((idx x101926 x120527 >>= fun x121782 =>
((iterO N (fun s => F_dofferref15_Bytes_l2 N x2 x101931 x121782 s.1 s.2) (0, true)) : Option Bool) >>= fun x121988 =>
((if x121988 = true then (
some (decide (x120528 < 0)))
else (
some false)) : Option Bool) >>= fun x122190 =>
((if x122190 = true then (
some x120527)
else (
some x120528)) : Option Int) >>= fun x122193 =>
some x122193) : Option Int) >>= fun x121780 =>
some (.inl (w64 (x120527 + 1), x121780)))
else (
some (.inr x120528))
def F_dofferref15_Bytes_l0 (N : Nat) (x2 : (List ((List Int) × (Int × Int × Int × Int) × Int × Int))) (x101926 : (List Int)) (x101930 : (List (List Bool))) (x101931 : Int) : Option (((List Int) × (List (List Bool)) × Int) ⊕ (List (List Bool))) :=
if (decide (x101931 < 256)) = true then (
((((iterO N (fun s => F_dofferref15_Bytes_l1 N x2 x101926 x101931 s.1 s.2) (0, (-1))) : Option Int) >>= fun x119692 =>
((if (decide (x119692 < 0)) = true then (
app x101926 ([x101931]) >>= fun x122229 =>
mk false 256 >>= fun x122235 =>
app x101930 ([x122235]) >>= fun x122242 =>
some (x122229, x122242, (x101926.length : Int)))
else (
some (x101926, x101930, x119692))) : Option ((List Int) × (List (List Bool)) × Int)) >>= fun (x122220, x122224, x122225) =>
idx x122224 x122225 >>= fun x122248 =>
idx x122248 x101931 >>= fun _x122257 =>
setI x122248 x101931 true >>= fun x122262 =>
setI x122224 x122225 x122262 >>= fun x122263 =>
some (x122220, x122263)) : Option ((List Int) × (List (List Bool)))) >>= fun (x117183, x117187) =>
some (.inl (x117183, x117187, w64 (x101931 + 1))))
else (
some (.inr x101930))
def F_dofferref15_Bytes_l3 (N : Nat) (x91753 : (List (List Bool))) (x122396 : (List (Int × Int × Int × Int))) (x122398 : Int) : Option (((List (Int × Int × Int × Int)) × Int) ⊕ (List (Int × Int × Int × Int))) :=
if (decide (x122398 < (x91753.length : Int))) = true then (
idx x91753 x122398 >>= fun x122432 =>
F_dofferref01_Of N x122432 >>= fun (x122443, x122444, x122445, x122446) =>
app x122396 ([(x122443, x122444, x122445, x122446)]) >>= fun x122450 =>
some (.inl (x122450, w64 (x122398 + 1))))
else (
some (.inr x122396))
def F_dofferref15_Bytes (N : Nat)  (x2 : (List ((List Int) × (Int × Int × Int × Int) × Int × Int))) (_x5 : (List Int)) : Option (List (Int × Int × Int × Int)) :=
((iterO N (fun s => F_dofferref15_Bytes_l0 N x2 s.1 s.2.1 s.2.2) ([], [], 0)) : Option (List (List Bool))) >>= fun x91753 =>
((iterO N (fun s => F_dofferref15_Bytes_l3 N x91753 s.1 s.2) ([], 0)) : Option (List (Int × Int × Int × Int))) >>= fun x122362 =>
some x122362
def F_dofferlaw15_NfaBytes_l0 (_N : Nat) (x338 : (List (Int × Int × Int × Int))) (x349 : (List (Int × Int × Int × Int))) (x537 : Int) : Option (Int ⊕ (Unit ⊕ Bool)) :=
if (decide (x537 < (x338.length : Int))) = true then (
idx x338 x537 >>= fun x587 =>
idx x349 x537 >>= fun x609 =>
if (([x587.1, x587.2.1, x587.2.2.1, x587.2.2.2] : List Int) != ([x609.1, x609.2.1, x609.2.2.1, x609.2.2.2] : List Int)) = true then (
some (.inr (.inr false)))
else (
some (.inl (w64 (x537 + 1)))))
else (
some (.inr (.inl ())))
noncomputable def F_dofferlaw15_NfaBytes (N : Nat)  (x2 : (List ((List Int) × (Int × Int × Int × Int) × Int × Int))) (x5 : (List Int)) : Option Bool :=
F_dofferlaw15_Of N x2 x5 40 >>= fun (x327, x328) =>
if (!x328) = true then (
some true)
else (
F_nfa_Bytes N x2 x5 >>= fun x338 =>
F_dofferref15_Right N x327 x5 >>= fun x343 =>
if (!x343) = true then (
some ((x338.length : Int) == 0))
else (
F_dofferref15_Bytes N x327 x5 >>= fun x349 =>
if ((x338.length : Int) != (x349.length : Int)) = true then (
some false)
else (
((iterO N (fun s => F_dofferlaw15_NfaBytes_l0 N x338 x349 s) 0) : Option (Unit ⊕ Bool)) >>= fun z => match z with
| .inr z => some z
| .inl _ =>
some true)))
end Go.Proofs.YtealkahefalaeaaGreatDoor
